/-
  The reference's shelves: the best entry of a name.
  The reference's lists of names: in order, each once; two lists are the same.
  The reference's shelves: one more entry, made of a name, a number and hypotheses.
-/
import Derived.Test.YtekipapkcgoieaaGreatDoorJ09
import Derived.Deep.DeepCutAuto
import Derived.Deep.RegionHeld3
import Derived.Deep.DeepMust
set_option linter.unusedVariables false
set_option linter.unusedSimpArgs false

/- The reference's shelves: the best entry of a name. -/
namespace Go.Proofs.YtekipapkcgoieaaGreatDoor
open Go.RowKit
attribute [local go_sem ↓] Go.wp_at_zero Go.wp_at_succ load_entry load_held store_entry store_held build_held build_entry slice_held sub_held

def bestStep (g : List Int) (b : Option HeldD) (h : HeldD) : Option HeldD := if within h.hyps g && (match b with | none => true | some x => decide (h.hyps.length < x.hyps.length)) then some h else b
def bestOf (g : List Int) (l : List HeldD) : Option HeldD := l.foldl (bestStep g) none
theorem bestOf_snoc (g : List Int) (l : List HeldD) (k : Nat) (hk : k < l.length) : bestOf g (l.take (k + 1)) = bestStep g (bestOf g (l.take k)) l[k] := by
  unfold bestOf
  rw [List.take_succ_eq_append_getElem hk, List.foldl_append]; rfl
def best (hs : List HeldD) (nm : List UInt8) (g : List Int) : Option HeldD := bestOf g (findH hs nm)

/-- What a search for the best entry returns. -/
def RBest (w : World) (b : Option HeldD) (e : Ending) (w' : World) : Prop := ∃ es : List Value, e = .returned (.tuple #[.agg es.toArray, .bool b.isSome]) ∧ es.length = 31 ∧ (∀ u ∈ es, u.oneCell' = true) ∧ (∀ x, b = some x → IsEntry w' es x) ∧ Ext w w'

end Go.Proofs.YtekipapkcgoieaaGreatDoor

/- The reference's lists of names: in order, each once; two lists are the same. -/
namespace Go.Proofs.YtekipapkcgoieaaGreatDoor
open Go.RowKit
attribute [local go_sem ↓] Go.wp_at_zero Go.wp_at_succ sub_strs

theorem string_info : (Tryz.prog.info? 9).map (fun i => (i.zero.map (·.cells.size), i.size, i.bytes)) = some (some 1, 1, 16) := by kernel_rfl
theorem run_none_strs (w : World) : (Instr.buildSlice 46 0 #[]).run Tryz.prog w = .ok (.slice (some ⟨w.heap.size, 0, none⟩) 0 0) (w.alloc (.cells #[] 9)) := by
  unfold Instr.buildSlice
  simp [go_sem]

set_option maxRecDepth 100000 in
set_option maxHeartbeats 2000000 in
theorem Same38_any (av bv : Value) (a b : List (List UInt8)) (w : World) (ha : a.length ≤ 100000000) (hb : b.length ≤ 100000000) (h1 : IsStrs w av a) (h2 : IsStrs w bv b) :
    Calls Tryz.prog 15 #[av, bv] w fun e w' => e = .returned (.bool (a == b)) ∧ ∃ n, w' = w.drewN n := by
  obtain ⟨A, c, rfl⟩ := h1.shape
  obtain ⟨B, d, rfl⟩ := h2.shape
  have H1 := Lib.hid h1
  have H2 := Lib.hid h2
  clear h1 h2
  by_cases hab : a.length = b.length
  · have hd : decide (a.length = b.length) = true := by simpa using hab
    have hd2 : (!decide ((a.length : Int) = (b.length : Int))) = false := by simp [hab]
    have hd3 : ((a.length : Int) != (b.length : Int)) = false := by simp [hab]
    have HAB := Lib.hid hab
    clear hab
    go_enter Tryz.func15, Tryz.ntmps15
    go_wp2_with fail
    go_loopw [5] (fun t wr => ∃ i : Nat, i ≤ a.length ∧ t = .int .i64 (i : Int) ∧ Hid (a.take i = b.take i) ∧ Hid (∃ n, wr = w.drewN n)) (fun t _ => a.length - (intOf t).toNat)
    case atStart => exact ⟨0, Nat.zero_le _, rfl, rfl, 0, rfl⟩
    case round =>
      obtain ⟨i, hi, rfl, hI, hw⟩ := hrel
      by_cases hlt : i < a.length
      · have hltb : i < b.length := by have := HAB.out; omega
        obtain ⟨b1, o1, rfl, -, hc1⟩ := H1.out.at i hlt
        obtain ⟨b2, o2, rfl, -, hc2⟩ := H2.out.at i hltb
        have g1 := hc1 w (KeepT.refl _ _)
        have g2 := hc2 w (KeepT.refl _ _)
        have hs1 := List.take_succ_eq_append_getElem hlt
        have hs2 := List.take_succ_eq_append_getElem hltb
        have hne : a[i] ≠ b[i] → a ≠ b := fun h e => h (by simp [e])
        clear hc1 hc2
        generalize a[i] = x at *
        generalize b[i] = y at *
        obtain ⟨n0, rfl⟩ := hw.out
        have HS1 := Lib.hid hs1
        have HS2 := Lib.hid hs2
        have HNE := Lib.hid hne
        clear hs1 hs2 hne
        by_cases hxy : x = y
        · have hq : (x == y) = true := by simpa using hxy
          have hq2 : (x != y) = false := by simpa using hxy
          have HXY := Lib.hid hxy
          clear hxy
          go_wp2_with fail
          go_quiet (fail)
          go_wp2
          go_roundw
          case rel => exact ⟨i + 1, by omega, by go_num, (by show _ = _; rw [HS1.out, HS2.out, hI.out, HXY.out]), ⟨_, rfl⟩⟩
          case measure => (simp [intOf] <;> omega)
        · have hq : (x == y) = false := by simpa using hxy
          have hq2 : (x != y) = true := by simpa using hxy
          have hab : (a == b) = false := by simpa using HNE.out hxy
          have HAB2 := Lib.hid hab
          clear hxy hab
          go_wp2_with fail
          go_quiet (fail)
          go_wp2
          go_ret
          exact ⟨by rw [HAB2.out]; rfl, ⟨_, World.drewN_drewN _ _ _⟩⟩
      · have hab : (a == b) = true := by
          have h := hI.out
          have := HAB.out
          rw [List.take_of_length_le (by omega), List.take_of_length_le (by omega)] at h
          simpa using h
        have HAB2 := Lib.hid hab
        clear hab
        obtain ⟨n0, rfl⟩ := hw.out
        go_wp2
        go_ret
        exact ⟨by rw [HAB2.out]; rfl, ⟨_, rfl⟩⟩
  · have hd : decide (a.length = b.length) = false := by simpa using hab
    have hd3 : ((a.length : Int) != (b.length : Int)) = true := by simpa using (by omega : ¬ (a.length : Int) = (b.length : Int))
    have hq : (a == b) = false := by simpa using (show ¬ a = b from fun e => hab (by rw [e]))
    have HQ := Lib.hid hq
    clear hab hq
    go_enter Tryz.func15, Tryz.ntmps15
    go_wp2
    go_ret
    exact ⟨by rw [HQ.out]; rfl, 0, rfl⟩

/-- A name is laid into a list in order, if it is not there yet. -/
def insS (l : List (List UInt8)) (x : List UInt8) : List (List UInt8) := if (l.dropWhile (fun y => decide (y < x))).head? = some x then l else l.takeWhile (fun y => decide (y < x)) ++ x :: l.dropWhile (fun y => decide (y < x))
def sortedOf (l : List (List UInt8)) : List (List UInt8) := l.foldl insS []
theorem sortedOf_snoc (l : List (List UInt8)) (k : Nat) (hk : k < l.length) : sortedOf (l.take (k + 1)) = insS (sortedOf (l.take k)) l[k] := by
  unfold sortedOf
  rw [List.take_succ_eq_append_getElem hk, List.foldl_append]; rfl
theorem insS_len (l : List (List UInt8)) (x : List UInt8) : (insS l x).length ≤ l.length + 1 := by
  unfold insS
  split
  · omega
  · have := congrArg List.length (List.takeWhile_append_dropWhile (p := fun y => decide (y < x)) (l := l))
    rw [List.length_append] at this
    simp only [List.length_append, List.length_cons]; omega
theorem sortedOf_len (l : List (List UInt8)) : (sortedOf l).length ≤ l.length := by
  have : ∀ (l acc : List (List UInt8)), (l.foldl insS acc).length ≤ acc.length + l.length := by
    intro l
    induction l with
    | nil => intro acc; simp
    | cons x l ih => intro acc; have := ih (insS acc x); have := insS_len acc x; simp; omega
  have := this l []
  simpa [sortedOf] using this
theorem while_at (p : List UInt8 → Bool) : ∀ (l : List (List UInt8)) (k : Nat), k ≤ l.length → (∀ j (h : j < l.length), j < k → p l[j] = true) → (∀ h : k < l.length, p l[k] = false) → l.takeWhile p = l.take k ∧ l.dropWhile p = l.drop k
  | [], k, hk, _, _ => by simp
  | x :: l, 0, _, _, h2 => by
    have := h2 (by simp)
    simp at this
    simp [this]
  | x :: l, k + 1, hk, h1, h2 => by
    have hx : p x = true := h1 0 (Nat.succ_pos _) (Nat.succ_pos _)
    have := while_at p l k (by simpa using hk) (fun j h hj => h1 (j + 1) (Nat.succ_lt_succ h) (Nat.succ_lt_succ hj)) (fun h => h2 (Nat.succ_lt_succ h))
    simp [hx, this]

def cellsS (xs : List (List UInt8)) : List (List Value) := xs.map fun s => [Value.string ⟨s.toArray⟩]
theorem cellsS_ok (xs : List (List UInt8)) : ∀ l ∈ cellsS xs, l.length = 1 ∧ ∀ u ∈ l, u.oneCell' = true := by
  intro l hl
  obtain ⟨s, _, rfl⟩ := List.mem_map.1 hl
  exact ⟨rfl, fun u hu => by rw [List.mem_singleton.1 hu]; rfl⟩
/-- A slice of names that the call itself is making. -/
def OwnStrs (base : Nat) (w : World) (v : Value) (xs : List (List UInt8)) : Prop := w.ownsRow base 9 1 v (cellsS xs).length (cellsS xs).flatten
theorem OwnStrs.strs {base : Nat} {w : World} {v : Value} {xs : List (List UInt8)} (h : OwnStrs base w v xs) : IsStrs w v xs := RowsOf.of_own (cellsS_ok xs) h

set_option maxRecDepth 100000 in
set_option maxHeartbeats 4000000 in
theorem Sorted38_own (lv : Value) (l : List (List UInt8)) (w : World) (hl : l.length ≤ 100000000) (h1 : IsStrs w lv l) :
    Calls Tryz.prog 16 #[lv] w fun e w' => ∃ v, e = .returned v ∧ OwnStrs w.heap.size w' v (sortedOf l) ∧ Ext w w' := by
  obtain ⟨A, c, rfl⟩ := h1.shape
  have H1 := Lib.hid h1
  clear h1
  have rn := run_none_strs
  go_enter Tryz.func16, Tryz.ntmps16
  go_wp2_with fail
  have hst : OwnStrs w.heap.size (w.alloc (.cells #[] 9)) (.slice (some ⟨w.heap.size, 0, none⟩) 0 0) (sortedOf (l.take 0)) := own_blk0 (Blk.newAt _ _ _ rfl) (Nat.le_refl _)
  have HST := Lib.hid hst
  clear hst
  go_loopw [3, 4, 5] (fun v t _ wr => ∃ (i : Nat) (B : Option Addr) (d : Nat), i ≤ l.length ∧ t = .int .i64 (i : Int) ∧ v = .slice B (sortedOf (l.take i)).length d ∧ Hid (OwnStrs w.heap.size wr v (sortedOf (l.take i))) ∧ Ext w wr) (fun _ t _ _ => l.length - (intOf t).toNat)
  case atStart => exact ⟨0, _, _, Nat.zero_le _, rfl, rfl, HST, (Ext.refl _).alloc _⟩
  case round =>
    obtain ⟨i, B, d, hi, rfl, rfl, hO, hEr⟩ := hrel
    by_cases hlt : i < l.length
    · obtain ⟨b1, o1, rfl, -, hc1⟩ := H1.out.at i hlt
      have hcx := hc1 wr (KeepT.ext hEr)
      have hsn := sortedOf_snoc l i hlt
      have hol : (sortedOf (l.take i)).length ≤ i := Nat.le_trans (sortedOf_len _) (by simp; omega)
      have hos : IsStrs wr (.slice B (sortedOf (l.take i)).length d) (sortedOf (l.take i)) := OwnStrs.strs hO.out
      have hcap := RowsOf.cap hos
      clear hc1
      generalize l[i] = x at *
      generalize sortedOf (l.take i) = out at *
      have HSN := Lib.hid hsn
      have HOS := Lib.hid hos
      have HCX : Hid (∀ w', Ext wr w' → w'.cell? ⟨b1, o1 + i, none⟩ = some (.string ⟨x.toArray⟩)) := fun w' h => (h.cell (p := ⟨b1, o1 + i, none⟩) (block_lt_of_cell hcx)).trans hcx
      clear hsn hos
      obtain ⟨wo, rfl⟩ : ∃ wo : World, wo = wr := ⟨_, rfl⟩
      go_wp2_with fail
      go_loopw [5] (fun t wx => ∃ k : Nat, k ≤ out.length ∧ t = .int .i64 (k : Int) ∧ Hid (∀ j (h : j < out.length), j < k → decide (out[j] < x) = true) ∧ Ext wo wx) (fun t _ => out.length - (intOf t).toNat)
      case atStart => exact ⟨0, Nat.zero_le _, rfl, (fun j _ hj => absurd hj (Nat.not_lt_zero _)), Ext.refl _⟩
      case round =>
        obtain ⟨k, hk, rfl, hA, hEq⟩ := hrel
        have hcx := HCX.out wr hEq
        have ru := fun w' => run_upto_strs w' B out.length d k (by omega)
        have rf := fun w' => run_from_strs w' B out.length d k hk hcap
        by_cases hlt2 : k < out.length
        · obtain ⟨b2, o2, rfl, -, hc2⟩ := HOS.out.at k hlt2
          have hcy := hc2 wr (KeepT.ext hEq)
          have hstep : out[k] < x → ∀ j (h : j < out.length), j < k + 1 → decide (out[j] < x) = true := fun hlo j h hj => by
            by_cases e : j = k
            · subst e; simpa using hlo
            · exact hA.out j h (by omega)
          have hwh : decide (out[k] < x) = false → out.takeWhile (fun y => decide (y < x)) = out.take k ∧ out.dropWhile (fun y => decide (y < x)) = out.drop k := fun h => while_at _ out k hk hA.out (fun _ => h)
          have hdr : (out.drop k).head? = some out[k] := by rw [List.head?_drop]; exact List.getElem?_eq_getElem hlt2
          have HCY := Lib.hid (fun w' (h : Ext wo w') => hc2 w' (KeepT.ext h))
          have HSTEP := Lib.hid hstep
          have HWH := Lib.hid hwh
          have HDR := Lib.hid hdr
          clear hc2 hstep hwh hdr
          generalize out[k] = y at *
          have hbl := bytesLess_eq y x
          by_cases hlo : y < x
          · have hb1 : Op.bytesLess y x = true := by rw [hbl]; simpa using hlo
            have HLO := Lib.hid hlo
            clear hbl hlo ru rf
            go_wp2_with fail
            go_quiet (fail)
            go_wp2
            go_roundw
            case rel => exact ⟨k + 1, by omega, by go_num, HSTEP.out HLO.out, hEq.drewN _⟩
            case measure => (simp [intOf] <;> omega)
          · have hb1 : Op.bytesLess y x = false := by rw [hbl]; simpa using hlo
            obtain ⟨e1, e2⟩ := HWH.out (by simpa using hlo)
            by_cases hxy : y = x
            · have hq : (y == x) = true := by simpa using hxy
              have hin : insS out x = out := by unfold insS; rw [e2, HDR.out, hxy, if_pos rfl]
              have HIN := Lib.hid hin
              clear hbl hlo ru rf hxy hin e1 e2
              go_wp2_with fail
              go_quiet (fail)
              obtain ⟨w4, hw4⟩ : ∃ w4 : World, w4 = wr.drewN nq := ⟨_, rfl⟩
              rw [← hw4]
              have hE4 : Ext wo w4 := by rw [hw4]; exact hEq.drewN _
              have hcx4 := HCX.out w4 hE4
              have hcy4 := HCY.out w4 hE4
              clear hw4 nq hcx hcy
              go_upto_region 8 with fail
              go_quiet (fail)
              go_wp2
              go_roundw
              case rel => exact ⟨i + 1, _, _, by omega, by go_num, by rw [HSN.out, HIN.out], by rw [HSN.out, HIN.out]; exact own_ext hO.out (hE4.drewN _), (hEr.trans hE4).drewN _⟩
              case measure => (simp [intOf] <;> omega)
            · have hq : (y == x) = false := by simpa using hxy
              have hin : insS out x = out.take k ++ x :: out.drop k := by unfold insS; rw [e1, e2, HDR.out, if_neg (by intro h; injection h with h; exact hxy h)]
              have HIN := Lib.hid hin
              clear hbl hlo hxy hin e1 e2
              go_wp2_with fail
              go_quiet (fail)
              obtain ⟨w4, hw4⟩ : ∃ w4 : World, w4 = wr.drewN nq := ⟨_, rfl⟩
              rw [← hw4]
              have hE4 : Ext wo w4 := by rw [hw4]; exact hEq.drewN _
              have hcx4 := HCX.out w4 hE4
              have hcy4 := HCY.out w4 hE4
              clear hw4 nq hcx hcy
              go_upto_region 8 with fail
              go_quiet (fail)
              obtain ⟨w5, hw5⟩ : ∃ w5 : World, w5 = w4.drewN nq := ⟨_, rfl⟩
              rw [← hw5]
              have hE5 : Ext wo w5 := by rw [hw5]; exact hE4.drewN _
              clear hw5 nq hcx4 hcy4
              go_upto_region 9 with fail
              have hEw5 : Ext w w5 := hEr.trans hE5
              have hcx5 := HCX.out w5 hE5
              have HKx : Hid (∀ w', Ext w5 w' → w'.cell? ⟨b1, o1 + i, none⟩ = some (.string ⟨x.toArray⟩)) := fun w' h => HCX.out w' (hE5.trans h)
              clear hq HWH
              go_region_held3 (fun w' => w'.cell? ⟨b1, o1 + i, none⟩ = some (.string ⟨x.toArray⟩))
                (first | (refine HKx.out _ ?_; (repeat (first | with_reducible assumption | with_reducible exact Ext.refl _ | with_reducible refine Ext.drew ?_ | with_reducible refine Ext.drewN ?_ _ | with_reducible refine Ext.alloc ?_ _ | with_reducible refine Ext.set2 ?_ (by omega) _ _ | with_reducible refine Ext.setCell ?_ (by first | omega | (simp; done) | (simp; omega)) _ | with_reducible refine Ext.trans ?_ (by with_reducible assumption))); done))
                (first | ((with_reducible refine step_at 49 ?_); go_must ((refine step_append_rows rfl (.tmp 45) (.tmp 48) _ rfl w5.heap.size 9 1 16 Tryz.underlying46 string_info (by decide) (.slice (some ⟨_, 0, none⟩) 0 0) 0 [] rfl (own_blk0 (by (repeat (first | with_reducible assumption | with_reducible exact Blk.newAt _ _ _ (by first | rfl | (simp; done) | (simp; omega)) | with_reducible refine Blk.alloc ?_ _ | with_reducible refine Blk.set2 (x := .bool false) (y := .slice none 0 0) ?_ _ _ | with_reducible refine Blk.far2 ?_ (by omega) _ _ | with_reducible refine Blk.drew ?_ | with_reducible refine Blk.ext ?_ (by with_reducible assumption)))) ?q1) _ ((cellsS out).take k) rfl ((RowsOf.take HOS.out k ?q2 _ _ _ rfl).ext ?q3) ?q449 ?q549 ?q649 ?_; (case q1 => omega); (case q2 => simpa [cellsS] using hk); (case q3 => (repeat (first | with_reducible assumption | with_reducible exact Ext.refl _ | with_reducible refine Ext.drew ?_ | with_reducible refine Ext.drewN ?_ _ | with_reducible refine Ext.alloc ?_ _ | with_reducible refine Ext.set2 ?_ (by omega) _ _ | with_reducible refine Ext.setCell ?_ (by first | omega | (simp; done) | (simp; omega)) _ | with_reducible refine Ext.trans ?_ (by with_reducible assumption)))); (case q449 => (first | omega | (simp; done) | (simp; omega) | (simp [cellsS]; done) | (simp [cellsS]; omega) | (simp [cellsS]; unfold maxLen; omega))); (case q549 => (first | omega | (simp; done) | (simp; omega) | (simp [cellsS]; done) | (simp [cellsS]; omega) | (simp [cellsS]; unfold maxLen; omega))); (case q649 => (first | omega | (simp; done) | (simp; omega) | (simp [cellsS]; done) | (simp [cellsS]; omega) | (simp [cellsS]; unfold maxLen; omega))); intro v6 w6 hown6 hgr6; have hE6 : Ext w5 w6 := Ext.grown (by (repeat (first | with_reducible assumption | with_reducible exact Ext.refl _ | with_reducible refine Ext.drew ?_ | with_reducible refine Ext.drewN ?_ _ | with_reducible refine Ext.alloc ?_ _ | with_reducible refine Ext.set2 ?_ (by omega) _ _ | with_reducible refine Ext.setCell ?_ (by first | omega | (simp; done) | (simp; omega)) _ | with_reducible refine Ext.trans ?_ (by with_reducible assumption)))) hgr6 (own_slice_base (by omega)); (try ((refine mp_of (p := Blk w6 w5.heap.size 9 #[.string ⟨x.toArray⟩]) ?_ ?_); (focus (refine Blk.grown ?_ hgr6 (own_slice_ne ?_) <;> first | omega | ((repeat (first | with_reducible assumption | with_reducible exact Blk.newAt _ _ _ (by first | rfl | (simp; done) | (simp; omega)) | with_reducible refine Blk.alloc ?_ _ | with_reducible refine Blk.set2 (x := .bool false) (y := .slice none 0 0) ?_ _ _ | with_reducible refine Blk.far2 ?_ (by omega) _ _ | with_reducible refine Blk.drew ?_ | with_reducible refine Blk.ext ?_ (by with_reducible assumption))); done))); intro hx0)); (try ((refine mp_of (p := Blk w6 (w5.heap.size + 1) 9 #[.string ⟨x.toArray⟩]) ?_ ?_); (focus (refine Blk.grown ?_ hgr6 (own_slice_ne ?_) <;> first | omega | ((repeat (first | with_reducible assumption | with_reducible exact Blk.newAt _ _ _ (by first | rfl | (simp; done) | (simp; omega)) | with_reducible refine Blk.alloc ?_ _ | with_reducible refine Blk.set2 (x := .bool false) (y := .slice none 0 0) ?_ _ _ | with_reducible refine Blk.far2 ?_ (by omega) _ _ | with_reducible refine Blk.drew ?_ | with_reducible refine Blk.ext ?_ (by with_reducible assumption))); done))); intro hx1))))) | ((with_reducible refine step_at 55 ?_); go_must ((refine step_append_rows rfl (.tmp 49) (.tmp 54) _ rfl w5.heap.size 9 1 16 Tryz.underlying46 string_info (by decide) _ _ _ rfl (own_ext hown6 ?q1) _ [[Value.string ⟨x.toArray⟩]] rfl (RowsOf.one_blk (by (repeat (first | with_reducible assumption | with_reducible exact Blk.newAt _ _ _ (by first | rfl | (simp; done) | (simp; omega)) | with_reducible refine Blk.alloc ?_ _ | with_reducible refine Blk.set2 (x := .bool false) (y := .slice none 0 0) ?_ _ _ | with_reducible refine Blk.far2 ?_ (by omega) _ _ | with_reducible refine Blk.drew ?_ | with_reducible refine Blk.ext ?_ (by with_reducible assumption)))) rfl ?q2) ?q455 ?q555 ?q655 ?_; (case q1 => (repeat (first | with_reducible assumption | with_reducible exact Ext.refl _ | with_reducible refine Ext.drew ?_ | with_reducible refine Ext.drewN ?_ _ | with_reducible refine Ext.alloc ?_ _ | with_reducible refine Ext.set2 ?_ (by omega) _ _ | with_reducible refine Ext.setCell ?_ (by first | omega | (simp; done) | (simp; omega)) _ | with_reducible refine Ext.trans ?_ (by with_reducible assumption)))); (case q2 => (intro u hu; rw [List.mem_singleton.1 hu]; rfl)); (case q455 => (first | omega | (simp; done) | (simp; omega) | (simp [cellsS]; done) | (simp [cellsS]; omega) | (simp [cellsS]; unfold maxLen; omega))); (case q555 => (first | omega | (simp; done) | (simp; omega) | (simp [cellsS]; done) | (simp [cellsS]; omega) | (simp [cellsS]; unfold maxLen; omega))); (case q655 => (have := hE6.size'; (first | omega | (simp; done) | (simp; omega) | (simp [cellsS]; done) | (simp [cellsS]; omega) | (simp [cellsS]; unfold maxLen; omega)))); intro v7 w7 hown7 hgr7; have hE7 : Ext w5 w7 := Ext.grown (by (repeat (first | with_reducible assumption | with_reducible exact Ext.refl _ | with_reducible refine Ext.drew ?_ | with_reducible refine Ext.drewN ?_ _ | with_reducible refine Ext.alloc ?_ _ | with_reducible refine Ext.set2 ?_ (by omega) _ _ | with_reducible refine Ext.setCell ?_ (by first | omega | (simp; done) | (simp; omega)) _ | with_reducible refine Ext.trans ?_ (by with_reducible assumption)))) hgr7 (own_block hown6)))) | ((with_reducible refine step_at 59 ?_); go_must ((refine step_append_rows rfl (.tmp 55) (.tmp 58) _ rfl w5.heap.size 9 1 16 Tryz.underlying46 string_info (by decide) _ _ _ rfl (own_ext hown7 ?q1) _ ((cellsS out).drop k) rfl ((RowsOf.from HOS.out k hk).ext ?q2) ?q459 ?q559 ?q659 ?_; (case q1 => (repeat (first | with_reducible assumption | with_reducible exact Ext.refl _ | with_reducible refine Ext.drew ?_ | with_reducible refine Ext.drewN ?_ _ | with_reducible refine Ext.alloc ?_ _ | with_reducible refine Ext.set2 ?_ (by omega) _ _ | with_reducible refine Ext.setCell ?_ (by first | omega | (simp; done) | (simp; omega)) _ | with_reducible refine Ext.trans ?_ (by with_reducible assumption)))); (case q2 => (repeat (first | with_reducible assumption | with_reducible exact Ext.refl _ | with_reducible refine Ext.drew ?_ | with_reducible refine Ext.drewN ?_ _ | with_reducible refine Ext.alloc ?_ _ | with_reducible refine Ext.set2 ?_ (by omega) _ _ | with_reducible refine Ext.setCell ?_ (by first | omega | (simp; done) | (simp; omega)) _ | with_reducible refine Ext.trans ?_ (by with_reducible assumption)))); (case q459 => (first | omega | (simp; done) | (simp; omega) | (simp [cellsS]; done) | (simp [cellsS]; omega) | (simp [cellsS]; unfold maxLen; omega))); (case q559 => (first | omega | (simp; done) | (simp; omega) | (simp [cellsS]; done) | (simp [cellsS]; omega) | (simp [cellsS]; unfold maxLen; omega))); (case q659 => (have := hE7.size'; (first | omega | (simp; done) | (simp; omega) | (simp [cellsS]; done) | (simp [cellsS]; omega) | (simp [cellsS]; unfold maxLen; omega)))); intro v8 w8 hown8 hgr8; have hE8 : Ext w5 w8 := Ext.grown (by (repeat (first | with_reducible assumption | with_reducible exact Ext.refl _ | with_reducible refine Ext.drew ?_ | with_reducible refine Ext.drewN ?_ _ | with_reducible refine Ext.alloc ?_ _ | with_reducible refine Ext.set2 ?_ (by omega) _ _ | with_reducible refine Ext.setCell ?_ (by first | omega | (simp; done) | (simp; omega)) _ | with_reducible refine Ext.trans ?_ (by with_reducible assumption)))) hgr8 (own_block hown7)))))
              all_goals
                have hf : (cellsS (insS out x)) = (cellsS out).take k ++ [[Value.string ⟨x.toArray⟩]] ++ (cellsS out).drop k := by rw [HIN.out]; unfold cellsS; rw [List.map_append, List.map_cons, List.map_take, List.map_drop, List.append_assoc]; rfl
                have hO8 : OwnStrs w.heap.size w8 v8 (insS out x) := by
                  unfold OwnStrs
                  rw [hf]
                  refine own_base ?_ hEw5.size'
                  have e : 0 + ((cellsS out).take k).length + [[Value.string ⟨x.toArray⟩]].length + ((cellsS out).drop k).length = ((cellsS out).take k ++ [[Value.string ⟨x.toArray⟩]] ++ (cellsS out).drop k).length := by simp [cellsS]; omega
                  rw [← e]
                  simpa using hown8
                have hO9 := hO8
                unfold OwnStrs at hO9
                rw [show (cellsS (insS out x)).length = out.length + 1 from by rw [hf]; simp [cellsS]; omega] at hO9
                obtain ⟨g8, c8, rfl⟩ := own_succ hO9
                clear hO9
                have hEw8 : Ext w w8 := hEw5.trans hE8
                have hil : (insS out x).length = out.length + 1 := by rw [HIN.out]; simp; omega
                have HO8 := Lib.hid hO8
                have HIL := Lib.hid hil
                clear hown8 hgr8 hown7 hgr7 hown6 hgr6 hO8 hf hil
                go_wp2
                go_roundw
                case rel => exact ⟨i + 1, _, _, by omega, by go_num, by rw [HSN.out, HIL.out], by rw [HSN.out]; exact HO8.out, hEw8⟩
                case measure => (simp [intOf] <;> omega)
        · obtain rfl : k = out.length := by omega
          have hdd : decide ((out.length : Int) < (out.length : Int)) = false := by simp
          obtain ⟨e1, e2⟩ := while_at (fun y => decide (y < x)) out out.length hk hA.out (fun h => absurd h (by omega))
          have hin : insS out x = out.take out.length ++ x :: out.drop out.length := by unfold insS; rw [e1, e2]; simp
          have HIN := Lib.hid hin
          have ru2 : True := trivial
          have hfr : RowsOf 9 1 wo (.slice (cutAt B d out.length 1) 0 (d - out.length)) ((cellsS out).drop out.length) := by
            have := RowsOf.from HOS.out out.length (Nat.le_refl _)
            rwa [Nat.sub_self] at this
          have HFR := Lib.hid hfr
          have rf : ∀ w', (bigSub 46 (.slice B out.length d) (some (.int .i64 (out.length : Int))) none none).run Tryz.prog w' = .ok (.slice (cutAt B d out.length 1) 0 (d - out.length)) w' := fun w' => by have := run_from_strs w' B out.length d out.length (Nat.le_refl _) hcap; rwa [Nat.sub_self] at this
          clear hin e1 e2 hfr
          go_wp2_with fail
          go_quiet (fail)
          obtain ⟨w4, hw4⟩ : ∃ w4 : World, w4 = wr.drewN nq := ⟨_, rfl⟩
          rw [← hw4]
          have hE4 : Ext wo w4 := by rw [hw4]; exact hEq.drewN _
          have hcx4 := HCX.out w4 hE4
          clear hw4 nq hcx
          go_upto_region 8 with fail
          go_quiet (fail)
          obtain ⟨w5, hw5⟩ : ∃ w5 : World, w5 = w4.drewN nq := ⟨_, rfl⟩
          rw [← hw5]
          have hE5 : Ext wo w5 := by rw [hw5]; exact hE4.drewN _
          clear hw5 nq hcx4
          go_upto_region 9 with fail
          have hEw5 : Ext w w5 := hEr.trans hE5
          have hcx5 := HCX.out w5 hE5
          have HKx : Hid (∀ w', Ext w5 w' → w'.cell? ⟨b1, o1 + i, none⟩ = some (.string ⟨x.toArray⟩)) := fun w' h => HCX.out w' (hE5.trans h)
          clear ru2
          go_region_held3 (fun w' => w'.cell? ⟨b1, o1 + i, none⟩ = some (.string ⟨x.toArray⟩))
            (first | (refine HKx.out _ ?_; (repeat (first | with_reducible assumption | with_reducible exact Ext.refl _ | with_reducible refine Ext.drew ?_ | with_reducible refine Ext.drewN ?_ _ | with_reducible refine Ext.alloc ?_ _ | with_reducible refine Ext.set2 ?_ (by omega) _ _ | with_reducible refine Ext.setCell ?_ (by first | omega | (simp; done) | (simp; omega)) _ | with_reducible refine Ext.trans ?_ (by with_reducible assumption))); done))
            (first | ((with_reducible refine step_at 49 ?_); go_must ((refine step_append_rows rfl (.tmp 45) (.tmp 48) _ rfl w5.heap.size 9 1 16 Tryz.underlying46 string_info (by decide) (.slice (some ⟨_, 0, none⟩) 0 0) 0 [] rfl (own_blk0 (by (repeat (first | with_reducible assumption | with_reducible exact Blk.newAt _ _ _ (by first | rfl | (simp; done) | (simp; omega)) | with_reducible refine Blk.alloc ?_ _ | with_reducible refine Blk.set2 (x := .bool false) (y := .slice none 0 0) ?_ _ _ | with_reducible refine Blk.far2 ?_ (by omega) _ _ | with_reducible refine Blk.drew ?_ | with_reducible refine Blk.ext ?_ (by with_reducible assumption)))) ?q1) _ ((cellsS out).take out.length) rfl ((RowsOf.take HOS.out out.length ?q2 _ _ _ rfl).ext ?q3) ?q449 ?q549 ?q649 ?_; (case q1 => omega); (case q2 => simp [cellsS]); (case q3 => (repeat (first | with_reducible assumption | with_reducible exact Ext.refl _ | with_reducible refine Ext.drew ?_ | with_reducible refine Ext.drewN ?_ _ | with_reducible refine Ext.alloc ?_ _ | with_reducible refine Ext.set2 ?_ (by omega) _ _ | with_reducible refine Ext.setCell ?_ (by first | omega | (simp; done) | (simp; omega)) _ | with_reducible refine Ext.trans ?_ (by with_reducible assumption)))); (case q449 => (first | omega | (simp; done) | (simp; omega) | (simp [cellsS]; done) | (simp [cellsS]; omega) | (simp [cellsS]; unfold maxLen; omega))); (case q549 => (first | omega | (simp; done) | (simp; omega) | (simp [cellsS]; done) | (simp [cellsS]; omega) | (simp [cellsS]; unfold maxLen; omega))); (case q649 => (first | omega | (simp; done) | (simp; omega) | (simp [cellsS]; done) | (simp [cellsS]; omega) | (simp [cellsS]; unfold maxLen; omega))); intro v6 w6 hown6 hgr6; have hE6 : Ext w5 w6 := Ext.grown (by (repeat (first | with_reducible assumption | with_reducible exact Ext.refl _ | with_reducible refine Ext.drew ?_ | with_reducible refine Ext.drewN ?_ _ | with_reducible refine Ext.alloc ?_ _ | with_reducible refine Ext.set2 ?_ (by omega) _ _ | with_reducible refine Ext.setCell ?_ (by first | omega | (simp; done) | (simp; omega)) _ | with_reducible refine Ext.trans ?_ (by with_reducible assumption)))) hgr6 (own_slice_base (by omega)); (try ((refine mp_of (p := Blk w6 w5.heap.size 9 #[.string ⟨x.toArray⟩]) ?_ ?_); (focus (refine Blk.grown ?_ hgr6 (own_slice_ne ?_) <;> first | omega | ((repeat (first | with_reducible assumption | with_reducible exact Blk.newAt _ _ _ (by first | rfl | (simp; done) | (simp; omega)) | with_reducible refine Blk.alloc ?_ _ | with_reducible refine Blk.set2 (x := .bool false) (y := .slice none 0 0) ?_ _ _ | with_reducible refine Blk.far2 ?_ (by omega) _ _ | with_reducible refine Blk.drew ?_ | with_reducible refine Blk.ext ?_ (by with_reducible assumption))); done))); intro hx0)); (try ((refine mp_of (p := Blk w6 (w5.heap.size + 1) 9 #[.string ⟨x.toArray⟩]) ?_ ?_); (focus (refine Blk.grown ?_ hgr6 (own_slice_ne ?_) <;> first | omega | ((repeat (first | with_reducible assumption | with_reducible exact Blk.newAt _ _ _ (by first | rfl | (simp; done) | (simp; omega)) | with_reducible refine Blk.alloc ?_ _ | with_reducible refine Blk.set2 (x := .bool false) (y := .slice none 0 0) ?_ _ _ | with_reducible refine Blk.far2 ?_ (by omega) _ _ | with_reducible refine Blk.drew ?_ | with_reducible refine Blk.ext ?_ (by with_reducible assumption))); done))); intro hx1))))) | ((with_reducible refine step_at 55 ?_); go_must ((refine step_append_rows rfl (.tmp 49) (.tmp 54) _ rfl w5.heap.size 9 1 16 Tryz.underlying46 string_info (by decide) _ _ _ rfl (own_ext hown6 ?q1) _ [[Value.string ⟨x.toArray⟩]] rfl (RowsOf.one_blk (by (repeat (first | with_reducible assumption | with_reducible exact Blk.newAt _ _ _ (by first | rfl | (simp; done) | (simp; omega)) | with_reducible refine Blk.alloc ?_ _ | with_reducible refine Blk.set2 (x := .bool false) (y := .slice none 0 0) ?_ _ _ | with_reducible refine Blk.far2 ?_ (by omega) _ _ | with_reducible refine Blk.drew ?_ | with_reducible refine Blk.ext ?_ (by with_reducible assumption)))) rfl ?q2) ?q455 ?q555 ?q655 ?_; (case q1 => (repeat (first | with_reducible assumption | with_reducible exact Ext.refl _ | with_reducible refine Ext.drew ?_ | with_reducible refine Ext.drewN ?_ _ | with_reducible refine Ext.alloc ?_ _ | with_reducible refine Ext.set2 ?_ (by omega) _ _ | with_reducible refine Ext.setCell ?_ (by first | omega | (simp; done) | (simp; omega)) _ | with_reducible refine Ext.trans ?_ (by with_reducible assumption)))); (case q2 => (intro u hu; rw [List.mem_singleton.1 hu]; rfl)); (case q455 => (first | omega | (simp; done) | (simp; omega) | (simp [cellsS]; done) | (simp [cellsS]; omega) | (simp [cellsS]; unfold maxLen; omega))); (case q555 => (first | omega | (simp; done) | (simp; omega) | (simp [cellsS]; done) | (simp [cellsS]; omega) | (simp [cellsS]; unfold maxLen; omega))); (case q655 => (have := hE6.size'; (first | omega | (simp; done) | (simp; omega) | (simp [cellsS]; done) | (simp [cellsS]; omega) | (simp [cellsS]; unfold maxLen; omega)))); intro v7 w7 hown7 hgr7; have hE7 : Ext w5 w7 := Ext.grown (by (repeat (first | with_reducible assumption | with_reducible exact Ext.refl _ | with_reducible refine Ext.drew ?_ | with_reducible refine Ext.drewN ?_ _ | with_reducible refine Ext.alloc ?_ _ | with_reducible refine Ext.set2 ?_ (by omega) _ _ | with_reducible refine Ext.setCell ?_ (by first | omega | (simp; done) | (simp; omega)) _ | with_reducible refine Ext.trans ?_ (by with_reducible assumption)))) hgr7 (own_block hown6)))) | ((with_reducible refine step_at 59 ?_); go_must ((refine step_append_rows rfl (.tmp 55) (.tmp 58) _ rfl w5.heap.size 9 1 16 Tryz.underlying46 string_info (by decide) _ _ _ rfl (own_ext hown7 ?q1) _ ((cellsS out).drop out.length) rfl (HFR.out.ext ?q2) ?q459 ?q559 ?q659 ?_; (case q1 => (repeat (first | with_reducible assumption | with_reducible exact Ext.refl _ | with_reducible refine Ext.drew ?_ | with_reducible refine Ext.drewN ?_ _ | with_reducible refine Ext.alloc ?_ _ | with_reducible refine Ext.set2 ?_ (by omega) _ _ | with_reducible refine Ext.setCell ?_ (by first | omega | (simp; done) | (simp; omega)) _ | with_reducible refine Ext.trans ?_ (by with_reducible assumption)))); (case q2 => (repeat (first | with_reducible assumption | with_reducible exact Ext.refl _ | with_reducible refine Ext.drew ?_ | with_reducible refine Ext.drewN ?_ _ | with_reducible refine Ext.alloc ?_ _ | with_reducible refine Ext.set2 ?_ (by omega) _ _ | with_reducible refine Ext.setCell ?_ (by first | omega | (simp; done) | (simp; omega)) _ | with_reducible refine Ext.trans ?_ (by with_reducible assumption)))); (case q459 => (first | omega | (simp; done) | (simp; omega) | (simp [cellsS]; done) | (simp [cellsS]; omega) | (simp [cellsS]; unfold maxLen; omega))); (case q559 => (first | omega | (simp; done) | (simp; omega) | (simp [cellsS]; done) | (simp [cellsS]; omega) | (simp [cellsS]; unfold maxLen; omega))); (case q659 => (have := hE7.size'; (first | omega | (simp; done) | (simp; omega) | (simp [cellsS]; done) | (simp [cellsS]; omega) | (simp [cellsS]; unfold maxLen; omega)))); intro v8 w8 hown8 hgr8; have hE8 : Ext w5 w8 := Ext.grown (by (repeat (first | with_reducible assumption | with_reducible exact Ext.refl _ | with_reducible refine Ext.drew ?_ | with_reducible refine Ext.drewN ?_ _ | with_reducible refine Ext.alloc ?_ _ | with_reducible refine Ext.set2 ?_ (by omega) _ _ | with_reducible refine Ext.setCell ?_ (by first | omega | (simp; done) | (simp; omega)) _ | with_reducible refine Ext.trans ?_ (by with_reducible assumption)))) hgr8 (own_block hown7)))))
          all_goals
            have hf : (cellsS (insS out x)) = (cellsS out).take out.length ++ [[Value.string ⟨x.toArray⟩]] ++ (cellsS out).drop out.length := by rw [HIN.out]; unfold cellsS; rw [List.map_append, List.map_cons, List.map_take, List.map_drop, List.append_assoc]; rfl
            have hO8 : OwnStrs w.heap.size w8 v8 (insS out x) := by
              unfold OwnStrs
              rw [hf]
              refine own_base ?_ hEw5.size'
              have e : 0 + ((cellsS out).take out.length).length + [[Value.string ⟨x.toArray⟩]].length + ((cellsS out).drop out.length).length = ((cellsS out).take out.length ++ [[Value.string ⟨x.toArray⟩]] ++ (cellsS out).drop out.length).length := by first | (simp [cellsS]; done) | (simp [cellsS]; omega)
              rw [← e]
              simpa using hown8
            have hO9 := hO8
            unfold OwnStrs at hO9
            rw [show (cellsS (insS out x)).length = out.length + 1 from by rw [hf]; first | (simp [cellsS]; done) | (simp [cellsS]; omega)] at hO9
            obtain ⟨g8, c8, rfl⟩ := own_succ hO9
            clear hO9
            have hEw8 : Ext w w8 := hEw5.trans hE8
            have hil : (insS out x).length = out.length + 1 := by rw [HIN.out]; first | (simp; done) | (simp; omega)
            have HO8 := Lib.hid hO8
            have HIL := Lib.hid hil
            clear hown8 hgr8 hown7 hgr7 hown6 hgr6 hO8 hf hil
            go_wp2
            go_roundw
            case rel => exact ⟨i + 1, _, _, by omega, by go_num, by rw [HSN.out, HIL.out], by rw [HSN.out]; exact HO8.out, hEw8⟩
            case measure => (simp [intOf] <;> omega)
    · have ht : l.take i = l := List.take_of_length_le (by omega)
      rw [ht] at hO ⊢
      have HOS := Lib.hid hO.out
      clear ht
      go_wp2
      go_ret
      exact ⟨_, rfl, HOS.out, hEr⟩

theorem Sorted38_any (lv : Value) (l : List (List UInt8)) (w : World) (hl : l.length ≤ 100000000) (h1 : IsStrs w lv l) :
    Calls Tryz.prog 16 #[lv] w fun e w' => ∃ v, e = .returned v ∧ IsStrs w' v (sortedOf l) ∧ Ext w w' := by
  refine (Sorted38_own lv l w hl h1).mono ?_
  rintro e w' ⟨v, rfl, h, hE⟩
  exact ⟨v, rfl, h.strs, hE⟩

end Go.Proofs.YtekipapkcgoieaaGreatDoor

/- The reference's shelves: one more entry, made of a name, a number and hypotheses. -/
namespace Go.Proofs.YtekipapkcgoieaaGreatDoor
open Go.RowKit
attribute [local go_sem ↓] Go.wp_at_zero Go.wp_at_succ load_entry load_held store_entry store_held build_held build_entry slice_held sub_held

/-- The cells of an entry that is made of its name, its values and its hypotheses. -/
def mkEntry (s : ByteArray) (V H : Value) : List Value := ((entry0.set 0 (.string s)).set 1 V).set 30 H
theorem mkEntry_len (s : ByteArray) (V H : Value) : (mkEntry s V H).length = 31 := by simp [mkEntry, entry0]
theorem run_build_entry (w : World) (s : ByteArray) (A : Option Addr) (n c : Nat) (B : Option Addr) (m d : Nat) :
    (bigBuild 77 #[(0, .string s), (1, .slice A n c), (3, .slice B m d)]).run Tryz.prog w = .ok (.agg (mkEntry s (.slice A n c) (.slice B m d)).toArray) w := by
  unfold bigBuild Instr.build mkEntry entry0
  simp [go_sem]
theorem IsEntry.made {w : World} {nm : List UInt8} {A : Option Addr} {n c : Nat} {B : Option Addr} {m d : Nat} {vals hyps : List Int} (h1 : IsInts w (.slice A n c) vals) (h2 : IsNums w (.slice B m d) hyps) :
    IsEntry w (mkEntry ⟨nm.toArray⟩ (.slice A n c) (.slice B m d)) ⟨nm, vals, hyps⟩ := by
  refine ⟨mkEntry_len _ _ _, ?_, rfl, ⟨_, rfl, h1⟩, _, rfl, h2⟩
  unfold mkEntry entry0
  simp [Value.oneCell']

set_option maxRecDepth 100000 in
set_option maxHeartbeats 2000000 in
theorem held38_any (sv hv : Value) (nm : List UInt8) (z : Int) (hy : List Int) (who : Int) (hs : List HeldD) (w : World) (hlen : hs.length ≤ 100000) (hne : ∀ h ∈ hs, h.name ≠ nm) (hz1 : -9223372036854775807 ≤ z) (hz2 : z ≤ 9223372036854775807)
    (h1 : IsShelf w sv hs) (h2 : IsNums w hv hy) :
    Calls Tryz.prog 32 #[.agg #[sv], .string ⟨nm.toArray⟩, .int .i64 z, hv, .int .i64 who] w fun e' w' => ∃ (v : Value) (k : Nat), e' = .returned (.agg #[v]) ∧ k ≤ hs.length ∧ IsShelf w' v (hs.take k ++ ⟨nm, [z], hy⟩ :: hs.drop k) ∧ Ext w w' := by
  obtain ⟨A, c, rfl⟩ := h1.shape
  obtain ⟨B, d, rfl⟩ := h2.shape
  have H1 := Lib.hid h1
  have H2 := Lib.hid h2
  have HN : Hid (∀ h ∈ hs, h.name ≠ (⟨nm, [z], hy⟩ : HeldD).name) := hne
  clear h1 h2 hne
  have rb := fun w' s A n c B m d => run_build_entry w' s A n c B m d
  go_enter Tryz.func32, Tryz.ntmps32
  go_wp2_with fail
  obtain ⟨W, hW⟩ : ∃ W : World, W = (w.alloc (.cells #[.slice A hs.length c] 30)).alloc (.cells #[.slice none 0 0] 30) := ⟨_, rfl⟩
  rw [← hW]
  have hE : Ext w W := by rw [hW]; exact ((Ext.refl w).alloc _).alloc _
  have hB1 : Blk W w.heap.size 30 #[.slice A hs.length c] := by rw [hW]; exact (Blk.newAt _ _ _ (by simp)).alloc _
  have hB2 : Blk W (w.heap.size + 1) 30 #[.slice none 0 0] := by rw [hW]; exact Blk.newAt _ _ _ (by simp)
  clear hW
  have HK : Hid (∀ w', Ext W w' → Ext w w' ∧ w'.cell? ⟨w.heap.size, 0, none⟩ = some (.slice A hs.length c)) := fun w' h => ⟨hE.trans h, (hB1.ext h).cell 0⟩
  have HK2 : Hid (∀ w', Ext W w' → ∀ u, Ext w (w'.setCell ⟨w.heap.size + 1, 0, none⟩ u) ∧ (w'.setCell ⟨w.heap.size + 1, 0, none⟩ u).cell? ⟨w.heap.size, 0, none⟩ = some (.slice A hs.length c)) := fun w' h u => ⟨(hE.trans h).setCell (by show w.heap.size ≤ w.heap.size + 1; omega) u, ((hB1.ext h).far (p := ⟨w.heap.size + 1, 0, none⟩) (by show w.heap.size ≠ w.heap.size + 1; omega) u).cell 0⟩
  go_region_held3 (fun w' => Ext w w' ∧ w'.cell? ⟨w.heap.size, 0, none⟩ = some (.slice A hs.length c))
    (first | (refine HK.out _ ?_; (repeat (first | with_reducible assumption | with_reducible exact Ext.refl _ | with_reducible refine Ext.drew ?_ | with_reducible refine Ext.drewN ?_ _ | with_reducible refine Ext.alloc ?_ _ | with_reducible refine Ext.set2 ?_ (by omega) _ _ | with_reducible refine Ext.setCell ?_ (by first | omega | (simp; done) | (simp; omega)) _ | with_reducible refine Ext.trans ?_ (by with_reducible assumption))); done) | (refine HK2.out _ ?_ _; (repeat (first | with_reducible assumption | with_reducible exact Ext.refl _ | with_reducible refine Ext.drew ?_ | with_reducible refine Ext.drewN ?_ _ | with_reducible refine Ext.alloc ?_ _ | with_reducible refine Ext.set2 ?_ (by omega) _ _ | with_reducible refine Ext.setCell ?_ (by first | omega | (simp; done) | (simp; omega)) _ | with_reducible refine Ext.trans ?_ (by with_reducible assumption))); done))
    (first | (go_at_call 12; (with_reducible refine (Of1_any z _ hz1 hz2).mono ?_); rintro e w2 ⟨s2, A2, n2, c2, rfl, hm2, he2⟩) | (go_at_call 71; (with_reducible refine (Add36_any _ _ _ _ _ hs ⟨nm, [z], hy⟩ _ hlen HN.out (H1.out.ext ?q1) (IsEntry.made ?q2 (H2.out.ext ?q3))).mono ?_); (case q1 => (repeat (first | with_reducible assumption | with_reducible exact Ext.refl _ | with_reducible refine Ext.drew ?_ | with_reducible refine Ext.drewN ?_ _ | with_reducible refine Ext.alloc ?_ _ | with_reducible refine Ext.set2 ?_ (by omega) _ _ | with_reducible refine Ext.setCell ?_ (by first | omega | (simp; done) | (simp; omega)) _ | with_reducible refine Ext.trans ?_ (by with_reducible assumption)))); (case q2 => (refine ⟨[[.bool s2, .slice A2 n2 c2]], RowsOf.one_blk (k := 2) (by (repeat (first | with_reducible assumption | with_reducible exact Blk.newAt _ _ _ (by first | rfl | (simp; done) | (simp; omega)) | with_reducible refine Blk.alloc ?_ _ | with_reducible refine Blk.set2 (x := .bool false) (y := .slice none 0 0) ?_ _ _ | with_reducible refine Blk.far2 ?_ (by omega) _ _ | with_reducible refine Blk.drew ?_ | with_reducible refine Blk.ext ?_ (by with_reducible assumption)))) rfl (by simp [Value.oneCell']), All2.one ⟨_, _, rfl, hm2.ext (by (repeat (first | with_reducible assumption | with_reducible exact Ext.refl _ | with_reducible refine Ext.drew ?_ | with_reducible refine Ext.drewN ?_ _ | with_reducible refine Ext.alloc ?_ _ | with_reducible refine Ext.set2 ?_ (by omega) _ _ | with_reducible refine Ext.setCell ?_ (by first | omega | (simp; done) | (simp; omega)) _ | with_reducible refine Ext.trans ?_ (by with_reducible assumption))))⟩⟩)); (case q3 => (repeat (first | with_reducible assumption | with_reducible exact Ext.refl _ | with_reducible refine Ext.drew ?_ | with_reducible refine Ext.drewN ?_ _ | with_reducible refine Ext.alloc ?_ _ | with_reducible refine Ext.set2 ?_ (by omega) _ _ | with_reducible refine Ext.setCell ?_ (by first | omega | (simp; done) | (simp; omega)) _ | with_reducible refine Ext.trans ?_ (by with_reducible assumption)))); rintro e w3 ⟨v3, k3, rfl, hk3, hm3, he3⟩; obtain ⟨A3, c3, rfl⟩ := hm3.shape; have hq2 := (hB2.ext (show Ext W w3 by (repeat (first | with_reducible assumption | with_reducible exact Ext.refl _ | with_reducible refine Ext.drew ?_ | with_reducible refine Ext.drewN ?_ _ | with_reducible refine Ext.alloc ?_ _ | with_reducible refine Ext.set2 ?_ (by omega) _ _ | with_reducible refine Ext.setCell ?_ (by first | omega | (simp; done) | (simp; omega)) _ | with_reducible refine Ext.trans ?_ (by with_reducible assumption))))); have hq3 := hq2.cell 0; have hq4 := hq2.frozen 0; have hq5 := hq2.lt))
  have hlen3 : (hs.take k3 ++ (⟨nm, [z], hy⟩ : HeldD) :: hs.drop k3).length = k3 + (hs.length - k3 + 1) := by simp; omega
  go_wp2
  refine bodyPost_ret (v := .agg #[.slice A3 (k3 + (hs.length - k3 + 1)) c3]) (by simp [results, Tryz.results32, go_sem, hq3, hq5]) rfl ?_
  have hE3 : Ext W w3 := by (repeat (first | with_reducible assumption | with_reducible exact Ext.refl _ | with_reducible refine Ext.drew ?_ | with_reducible refine Ext.drewN ?_ _ | with_reducible refine Ext.alloc ?_ _ | with_reducible refine Ext.set2 ?_ (by omega) _ _ | with_reducible refine Ext.setCell ?_ (by first | omega | (simp; done) | (simp; omega)) _ | with_reducible refine Ext.trans ?_ (by with_reducible assumption)))
  refine ⟨_, k3, rfl, hk3, ?_, (hE.trans hE3).setCell (by show w.heap.size ≤ w.heap.size + 1; omega) _⟩
  rw [hlen3] at hm3
  exact hm3.keep (ts := [82, 37, 123, 3]) ((KeepT.refl _ _).set hq2.type (by decide) _) (fun _ h => h)

end Go.Proofs.YtekipapkcgoieaaGreatDoor
