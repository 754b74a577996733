/-
  Shelves that lack one part's entry: the plain law.
-/
import Derived.Test.YtekipapkcgoieaaGreatDoorJ18
set_option linter.unusedVariables false
set_option linter.unusedSimpArgs false

/- Shelves that lack one part's entry: the plain law. -/
namespace Go.Proofs.YtekipapkcgoieaaGreatDoor
open Go.RowKit

def lackOf (hs : List HeldD) (nm : List UInt8) : List HeldD := hs.filter fun h => !(h.name == nm)
theorem find_lack (hs : List HeldD) (a b : List UInt8) (h : b ≠ a) : findH (lackOf hs a) b = findH hs b := by
  unfold findH lackOf
  rw [List.filter_filter]
  refine List.filter_congr fun x _ => ?_
  by_cases hx : x.name = b
  · simp [hx, h]
  · simp [hx]
theorem find_gone (hs : List HeldD) (a : List UInt8) : findH (lackOf hs a) a = [] := by
  unfold findH lackOf
  rw [List.filter_filter, List.filter_eq_nil_iff]
  intro x _
  by_cases hx : x.name = a <;> simp [hx]
theorem best_lack (hs : List HeldD) (a b : List UInt8) (g : List Int) (h : b ≠ a) : best (lackOf hs a) b g = best hs b g := by
  unfold best; rw [find_lack hs a b h]
theorem best_gone (hs : List HeldD) (a : List UInt8) (g : List Int) : best (lackOf hs a) a g = none := by
  unfold best; rw [find_gone]; rfl
theorem fold_add (f : PartD → Rat) : ∀ (l : List PartD) (s : Rat), l.foldl (fun s q => s + f q) s = s + l.foldl (fun s q => s + f q) 0
  | [], s => by simp [Rat.add_zero]
  | q :: l, s => by
    rw [List.foldl_cons, List.foldl_cons, fold_add f l (s + f q), fold_add f l (0 + f q), Rat.zero_add, Rat.add_assoc]
theorem fold_same (f f' : PartD → Rat) : ∀ (l : List PartD), (∀ q ∈ l, f q = f' q) → ∀ s, l.foldl (fun s q => s + f q) s = l.foldl (fun s q => s + f' q) s
  | [], _, _ => rfl
  | q :: l, h, s => by
    rw [List.foldl_cons, List.foldl_cons, h q (by simp)]
    exact fold_same f f' l (fun x hx => h x (by simp [hx])) _
theorem fold_less (f f' : PartD → Rat) (p : PartD) (hf : f' p = 0) (hq : ∀ q, q.name ≠ p.name → f' q = f q) :
    ∀ (l : List PartD), (l.map PartD.name).Pairwise (· ≠ ·) → p ∈ l → l.foldl (fun s q => s + f q) 0 = l.foldl (fun s q => s + f' q) 0 + f p
  | q :: l, hn, hp => by
    rw [List.map_cons, List.pairwise_cons] at hn
    rw [List.foldl_cons, List.foldl_cons, fold_add f l (0 + f q), fold_add f' l (0 + f' q), Rat.zero_add, Rat.zero_add]
    rcases List.mem_cons.1 hp with rfl | hp
    · rw [hf, Rat.zero_add, fold_same f' f l (fun x hx => hq x (fun e => hn.1 x.name (List.mem_map_of_mem hx) e.symm)) 0]
      exact Rat.add_comm _ _
    · have hne : q.name ≠ p.name := hn.1 p.name (List.mem_map_of_mem hp)
      rw [hq q hne, fold_less f f' p hf hq l hn.2 hp, Rat.add_assoc]
theorem name_one : ∀ {l : List PartD}, (l.map PartD.name).Pairwise (· ≠ ·) → ∀ {p : PartD}, p ∈ l → l.filter (fun q => q.name == p.name) = [p]
  | q :: l, hn, p, hp => by
    rw [List.map_cons, List.pairwise_cons] at hn
    rw [List.filter_cons]
    rcases List.mem_cons.1 hp with rfl | hp
    · rw [if_pos (by simp)]
      congr 1
      rw [List.filter_eq_nil_iff]
      intro x hx
      simpa using fun e => hn.1 x.name (List.mem_map_of_mem hx) e.symm
    · rw [if_neg (by simpa using hn.1 p.name (List.mem_map_of_mem hp))]
      exact name_one hn.2 hp
/-- What a shelf of the parts' entries gives, and what it gives without one of them. -/
theorem lack_law {ps : List PartD} {hs : List HeldD} (h : hs.Perm (ps.map entR)) (hn : (ps.map PartD.name).Pairwise (· ≠ ·)) (ha : ∀ q ∈ ps, q.at_ = 0 ∧ q.is = false) {p : PartD} (hp : p ∈ ps) :
    missK hs [] ps = [] ∧ missK (lackOf hs p.name) [] ps = [p.name] ∧ sumVal hs [] ps = sumVal (lackOf hs p.name) [] ps + p.c * ((twelve (numOf p) : Int) : Rat) := by
  have hv : ∀ q ∈ ps, partVal (best hs q.name []) q = some (q.c * ((twelve (numOf q) : Int) : Rat)) := fun q hq => val_ent h hn hq [] (ha q hq).1 (ha q hq).2
  refine ⟨?_, ?_, ?_⟩
  · unfold missK
    rw [List.filter_eq_nil_iff.2 (fun q hq => by rw [hv q hq]; simp)]
    rfl
  · unfold missK
    have : ps.filter (fun q => !(partVal (best (lackOf hs p.name) q.name []) q).isSome) = ps.filter (fun q => q.name == p.name) := by
      refine List.filter_congr fun q hq => ?_
      by_cases hx : q.name = p.name
      · rw [hx, best_gone]; simp [partVal]
      · rw [best_lack _ _ _ _ hx, hv q hq]
        simp [hx]
    rw [this, name_one hn hp]
    rfl
  · unfold sumVal
    have hz : (partVal (best (lackOf hs p.name) p.name []) p).getD 0 = 0 := by rw [best_gone]; rfl
    have hy : ∀ q : PartD, q.name ≠ p.name → (partVal (best (lackOf hs p.name) q.name []) q).getD 0 = (partVal (best hs q.name []) q).getD 0 := fun q hx => by rw [best_lack _ _ _ _ hx]
    rw [fold_less (fun q => (partVal (best hs q.name []) q).getD 0) (fun q => (partVal (best (lackOf hs p.name) q.name []) q).getD 0) p hz hy ps hn hp, hv p hp]
    rfl

end Go.Proofs.YtekipapkcgoieaaGreatDoor
