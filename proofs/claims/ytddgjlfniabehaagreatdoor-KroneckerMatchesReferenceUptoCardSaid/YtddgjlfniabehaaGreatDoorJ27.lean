/-
  R38.Holds.
-/
import Derived.Test.YtddgjlfniabehaaGreatDoorJ17
import Derived.Test.YtddgjlfniabehaaGreatDoorJ15
set_option linter.unusedVariables false
set_option linter.unusedSimpArgs false

/- R38.Holds. -/
namespace Go.Proofs.YtddgjlfniabehaaGreatDoor
open Go.RowKit
attribute [local go_sem ↓] Go.wp_at_zero Go.wp_at_succ

set_option maxRecDepth 100000 in
set_option maxHeartbeats 4000000 in
theorem Holds38_any (av a b c' d sv gv : Value) (ps : List PartD) (tt : Rat) (hs : List HeldD) (g : List Int) (w : World) (hpl : ps.length ≤ 5000) (hlen : hs.length ≤ 100000) (hgl : g.length ≤ 100000000) (hok : ∀ h ∈ hs, HeldOk h) (hp : ∀ p ∈ ps, PartTw p) (htn : tt.num.natAbs ≤ 1000000000) (htd : tt.den ≤ 1000)
    (h0 : IsParts w av ps) (h1 : IsRat w a b c' d tt) (h3 : IsShelf w sv hs) (h4 : IsNums w gv g) :
    Calls Tryz.prog 21 #[.agg #[av, a, b, c', d], .agg #[sv], gv] w fun e w' => e = .returned (.bool (holdsOf hs g ps tt)) ∧ Ext w w' := by
  have hSum := fun (W : World) (k : Ext w W) => Sum38_any av a b c' d sv gv ps tt hs g W hpl hlen hgl hok hp (h0.ext k) (h1.ext k) (h3.ext k) (h4.ext k)
  have hst := sumVal_tw (g := g) hok hp ps.length (Nat.le_refl _)
  rw [List.take_length] at hst
  have hsd := hst.den
  have hsn := hst.num
  have HSUM := Lib.hid hSum
  have H1 := Lib.hid h1
  obtain ⟨A0, n0, rfl⟩ := h0.shape
  obtain ⟨s1, A1, n1, c1, s2, A2, n2, c2, rfl, rfl, rfl, rfl⟩ := h1.form
  obtain ⟨A, c, rfl⟩ := h3.shape
  obtain ⟨Ag, cg, rfl⟩ := h4.shape
  clear h0 h1 h3 h4 hok hp hSum hst
  have hj : ps.length * 1000000000000 ≤ 5000000000000000 := by omega
  go_enter Tryz.func21, Tryz.ntmps21
  go_wp2_with fail
  obtain ⟨W, hW⟩ : ∃ W : World, W = (w.alloc (.cells #[.slice A0 ps.length n0, .bool s1, .slice A1 n1 c1, .bool s2, .slice A2 n2 c2] 41)).alloc (.cells #[.slice A hs.length c] 30) := ⟨_, rfl⟩
  rw [← hW]
  have hE : Ext w W := by rw [hW]; exact ((Ext.refl w).alloc _).alloc _
  have hBa : Blk W w.heap.size 41 #[.slice A0 ps.length n0, .bool s1, .slice A1 n1 c1, .bool s2, .slice A2 n2 c2] := by rw [hW]; exact (Blk.newAt _ _ _ (by simp)).alloc _
  clear hW
  refine (HSUM.out W hE).mono ?_
  rintro e w1 ⟨a', b', c'', d', m, rfl, hq, hm, hE1⟩
  rw [sumMissR_eq] at hm
  obtain ⟨s3, A3, n3, c3, s4, A4, n4, c4, rfl, rfl, rfl, rfl⟩ := hq.form
  obtain ⟨A5, c5, rfl⟩ := hm.shape
  have HQ := Lib.hid hq
  have HBA := Lib.hid (hBa.ext hE1)
  clear hq hm hBa HSUM
  go_upto_region 2 with fail
  obtain ⟨w2, hw2⟩ : ∃ w2 : World, w2 = w1.alloc (.cells #[.bool s3, .slice A3 n3 c3, .bool s4, .slice A4 n4 c4, .slice A5 (sortedOf (missK hs g ps)).length c5] 54) := ⟨_, rfl⟩
  rw [← hw2]
  have hE2 : Ext w1 w2 := by rw [hw2]; exact (Ext.refl _).alloc _
  have hB7 : Blk w2 w1.heap.size 54 #[.bool s3, .slice A3 n3 c3, .bool s4, .slice A4 n4 c4, .slice A5 (sortedOf (missK hs g ps)).length c5] := by rw [hw2]; exact Blk.newAt _ _ _ rfl
  clear hw2
  generalize w1.heap.size = gb at *
  have q7 := hB7.five
  have qa := (HBA.out.ext hE2).five
  have hall := (hE.trans (hE1.trans hE2))
  have hC : Calls Tryz.prog 18 #[.agg #[.bool s3, .slice A3 n3 c3, .bool s4, .slice A4 n4 c4], .agg #[.bool s1, .slice A1 n1 c1, .bool s2, .slice A2 n2 c2]] w2 fun e w' => e = .returned (.bool (decide (sumVal hs g ps = tt))) ∧ Ext w2 w' := by
    have l1 := wordsOf_len2 (m := (sumVal hs g ps).num.natAbs) (by omega)
    have l2 := wordsOf_len2 (m := (sumVal hs g ps).den) (by omega)
    have l3 := wordsOf_len2 (m := tt.num.natAbs) (by omega)
    have l4 := wordsOf_len2 (m := tt.den) (by omega)
    exact (rSame1_any _ _ _ _ _ _ _ _ (sumVal hs g ps) tt w2 (by omega) (by omega) (by omega) (by omega) (HQ.out.ext hE2) (H1.out.ext hall)).mono fun e w' ⟨he, hE⟩ => ⟨by rw [he], hE⟩
  have HC := Lib.hid hC
  have HH := Lib.hid (show holdsOf hs g ps tt = ((sortedOf (missK hs g ps)).isEmpty && decide (sumVal hs g ps = tt)) from rfl)
  clear hC hsd hsn hj
  by_cases hm0 : (sortedOf (missK hs g ps)).length = 0
  · have hm1 := List.eq_nil_of_length_eq_zero hm0
    rw [hm1] at HH ⊢
    rw [hm1] at q7
    clear hm0 hm1
    go_wp2_with (go_at_call 18; refine HC.out.mono ?_; rintro e w3 ⟨rfl, hE3⟩)
    go_ret
    exact ⟨by rw [HH.out]; rfl, hall.trans hE3⟩
  · have hm1 : (sortedOf (missK hs g ps)).isEmpty = false := by cases h : sortedOf (missK hs g ps) with
      | nil => rw [h] at hm0; simp at hm0
      | cons x l => rfl
    rw [hm1] at HH
    have hl0 : (((sortedOf (missK hs g ps)).length : Int) == 0) = false := beq_eq_false_iff_ne.2 (by omega)
    go_wp2
    go_ret
    exact ⟨by rw [HH.out]; rfl, hall⟩

end Go.Proofs.YtddgjlfniabehaaGreatDoor
