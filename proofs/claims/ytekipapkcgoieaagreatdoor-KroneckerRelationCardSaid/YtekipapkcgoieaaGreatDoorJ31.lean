/-
  The class number relation for numbers to 60: what the parts of an audit give, with the right values, is the total.
-/
import Derived.Test.YtekipapkcgoieaaGreatDoorJ22m
import Derived.Test.YtekipapkcgoieaaGreatDoorJ16c
set_option linter.unusedVariables false
set_option linter.unusedSimpArgs false

/- The class number relation for numbers to 60: what the parts of an audit give, with the right values, is the total. -/
namespace Go.Proofs.YtekipapkcgoieaaGreatDoor

def kronZ (k t : Nat) : Int := (if t = 0 then 1 else 2) * twelve ((4 * k - t * t : Nat) : Int)
def kronOk (k T : Nat) : Bool := if (∀ i, i < T → i * i ≤ 4 * k) ∧ 4 * k < T * T then decide ((((List.range T).reverse.map (kronZ k)).sum) = 12 * tot k k) else true
set_option maxRecDepth 100000 in
theorem kron_all : ((List.range 61).all fun k => k == 0 || (List.range 17).all fun T => kronOk k T) = true := by decide +kernel
set_option maxRecDepth 100000 in
theorem kron_top : ((List.range 61).all fun k => k == 0 || (List.range 17).any fun T => decide ((∀ i, i < T → i * i ≤ 4 * k) ∧ 4 * k < T * T)) = true := by decide +kernel
theorem kron60 {k : Nat} (h1 : 1 ≤ k) (h2 : k ≤ 60) : ∃ T, (∀ i, i < T → i * i ≤ 4 * k) ∧ 4 * k < T * T ∧ ((List.range T).reverse.map (kronZ k)).sum = 12 * tot k k := by
  have a1 := List.all_eq_true.1 kron_top k (List.mem_range.2 (by omega))
  have a2 := List.all_eq_true.1 kron_all k (List.mem_range.2 (by omega))
  have hk : (k == 0) = false := by simp; omega
  rw [hk, Bool.false_or] at a1 a2
  obtain ⟨T, hT, ht⟩ := List.any_eq_true.1 a1
  have ht := of_decide_eq_true ht
  have a3 := List.all_eq_true.1 a2 T hT
  unfold kronOk at a3
  rw [if_pos ht] at a3
  exact ⟨T, ht.1, ht.2, of_decide_eq_true a3⟩
theorem sum12 (z : Nat → Int) : ∀ (l : List Nat) (a : Int), l.foldl (fun s t => s + mkRat (z t) 12) (mkRat a 12) = mkRat (a + (l.map z).sum) 12
  | [], a => by simp
  | t :: l, a => by
    rw [List.foldl_cons, mk12_add, sum12 z l (a + z t), List.map_cons, List.sum_cons, Int.add_assoc]
theorem mk12_whole (z : Int) : mkRat (12 * z) 12 = ((z : Int) : Rat) := by
  rw [show mkRat (12 * z) 12 = mkRat z 1 from by
    have := Rat.mkRat_mul_left (n := z) (d := 1) (a := 12) (by decide)
    simpa using this]
  exact Rat.mkRat_one z
/-- With the right values the sum is the total. -/
theorem sum_true {k : Nat} (h1 : 1 ≤ k) (h2 : k ≤ 60) {hs : List HeldD} (h : hs.Perm ((partsR k (4 * k + 1)).map entR)) : sumVal hs [] (partsR k (4 * k + 1)) = ((tot k k : Int) : Rat) := by
  have hn := parts_names k (4 * k + 1)
  have ha : ∀ q ∈ partsR k (4 * k + 1), q.at_ = 0 ∧ q.is = false := fun q hq => by obtain ⟨m, _, rfl⟩ := parts_mem hq; exact ⟨rfl, rfl⟩
  have hv : ∀ q ∈ partsR k (4 * k + 1), (partVal (best hs q.name []) q).getD 0 = q.c * ((twelve (numOf q) : Int) : Rat) := fun q hq => by rw [val_ent h hn hq [] (ha q hq).1 (ha q hq).2]; rfl
  unfold sumVal
  rw [fold_same _ _ _ hv]
  obtain ⟨T, t1, t2, ht⟩ := kron60 h1 h2
  rw [← partsK_eq k T t1 t2]
  unfold partsK
  rw [← List.map_reverse, List.foldl_map]
  have hz : ∀ t, (partK k t).c * ((twelve (numOf (partK k t)) : Int) : Rat) = mkRat (kronZ k t) 12 := by
    intro t
    have hm : numOf (partK k t) = 4 * k - t * t := vOf_name _
    rw [hm]
    unfold kronZ partK
    dsimp only
    by_cases h0 : t = 0
    · rw [if_pos h0, if_pos h0, mk12_mul]
    · rw [if_neg h0, if_neg h0, show mkRat 1 6 = mkRat 2 12 by decide, mk12_mul]
  simp only [hz]
  have := sum12 (kronZ k) (List.range T).reverse 0
  rw [show mkRat 0 12 = 0 from by decide] at this
  exact this.trans (by rw [ht, Int.zero_add, mk12_whole])

/-- One entry put in the place of another. -/
theorem find_put (ls : List HeldD) (k : Nat) (x : HeldD) (b : List UInt8) (hne : ∀ h ∈ ls, h.name ≠ x.name) : findH (ls.take k ++ x :: ls.drop k) b = if x.name = b then [x] else findH ls b := by
  unfold findH
  rw [List.filter_append, List.filter_cons]
  by_cases hb : x.name = b
  · rw [if_pos hb]
    have h1 : (ls.take k).filter (fun h => h.name == b) = [] := List.filter_eq_nil_iff.2 fun h hh => by
      have := hne h (List.mem_of_mem_take hh)
      rw [hb] at this
      simpa using this
    have h2 : (ls.drop k).filter (fun h => h.name == b) = [] := List.filter_eq_nil_iff.2 fun h hh => by
      have := hne h (List.mem_of_mem_drop hh)
      rw [hb] at this
      simpa using this
    rw [h1, h2]
    simp [hb]
  · rw [if_neg hb]
    have : (x.name == b) = false := by simpa using hb
    rw [this]
    simp only [Bool.false_eq_true, if_false]
    rw [← List.filter_append, List.take_append_drop]
theorem lack_ne (hs : List HeldD) (a : List UInt8) : ∀ h ∈ lackOf hs a, h.name ≠ a := fun h hh e => by
  have := (List.mem_filter.1 hh).2
  rw [e] at this
  simp at this
/-- A value changed: the sum, and what is missing. -/
theorem lie_law {ps : List PartD} {hs : List HeldD} (h : hs.Perm (ps.map entR)) (hn : (ps.map PartD.name).Pairwise (· ≠ ·)) (ha : ∀ q ∈ ps, q.at_ = 0 ∧ q.is = false) {p : PartD} (hp : p ∈ ps) (k : Nat) (d : Int) :
    missK ((lackOf hs p.name).take k ++ ⟨p.name, [twelve (numOf p) + d], []⟩ :: (lackOf hs p.name).drop k) [] ps = [] ∧
      sumVal ((lackOf hs p.name).take k ++ ⟨p.name, [twelve (numOf p) + d], []⟩ :: (lackOf hs p.name).drop k) [] ps = sumVal hs [] ps + p.c * ((d : Int) : Rat) := by
  obtain ⟨ts, hts⟩ : ∃ ts, (lackOf hs p.name).take k ++ ⟨p.name, [twelve (numOf p) + d], []⟩ :: (lackOf hs p.name).drop k = ts := ⟨_, rfl⟩
  have hf : ∀ b, findH ts b = if p.name = b then [⟨p.name, [twelve (numOf p) + d], []⟩] else findH (lackOf hs p.name) b := fun b => by rw [← hts]; exact find_put _ _ _ _ (lack_ne _ _)
  rw [hts]
  have hpa := ha p hp
  have hb1 : best ts p.name [] = some ⟨p.name, [twelve (numOf p) + d], []⟩ := by
    unfold best
    rw [hf, if_pos rfl]
    rfl
  have hb2 : ∀ b, b ≠ p.name → best ts b [] = best hs b [] := fun b hb => by
    unfold best
    rw [hf, if_neg (fun e => hb e.symm), find_lack _ _ _ hb]
  have hv : ∀ q ∈ ps, partVal (best hs q.name []) q = some (q.c * ((twelve (numOf q) : Int) : Rat)) := fun q hq => val_ent h hn hq [] (ha q hq).1 (ha q hq).2
  have hvp : partVal (best ts p.name []) p = some (p.c * (((twelve (numOf p) + d) : Int) : Rat)) := by
    rw [hb1]
    unfold partVal
    simp [hpa.1, hpa.2]
  refine ⟨?_, ?_⟩
  · unfold missK
    rw [List.filter_eq_nil_iff.2 (fun q hq => ?_)]
    · rfl
    · by_cases hx : q.name = p.name
      · rw [hx, hb1]
        unfold partVal
        simp [(ha q hq).1]
      · rw [hb2 _ hx, hv q hq]; simp
  · have hl := (lack_law h hn ha hp).2.2
    have hz : (partVal (best (lackOf hs p.name) p.name []) p).getD 0 = 0 := by rw [best_gone]; rfl
    have hy : ∀ q : PartD, q.name ≠ p.name → (partVal (best (lackOf hs p.name) q.name []) q).getD 0 = (partVal (best ts q.name []) q).getD 0 := fun q hx => by rw [best_lack _ _ _ _ hx, hb2 _ hx]
    have h3 : sumVal ts [] ps = sumVal (lackOf hs p.name) [] ps + (partVal (best ts p.name []) p).getD 0 := by
      unfold sumVal
      exact fold_less (fun q => (partVal (best ts q.name []) q).getD 0) (fun q => (partVal (best (lackOf hs p.name) q.name []) q).getD 0) p hz hy ps hn hp
    rw [h3, hl, hvp, Option.getD_some, Rat.intCast_add, Rat.mul_add, Rat.add_assoc]

end Go.Proofs.YtekipapkcgoieaaGreatDoor
