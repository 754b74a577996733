/-
  Fractions: made of integers, negation, differences, comparison.
  Fractions: comparison.
  The reference's integers as numbers.
  The reference's integers: number of binary digits (one word).
  The reference's powers of 2 (of a small exponent).
  The reference's square roots (of small numbers).
-/
import Derived.Test.YtekipapkcgoieaaGreatDoorJ07
import Derived.Test.YtekipapkcgoieaaGreatDoorJ05
import Derived.Test.YtekipapkcgoieaaGreatDoorJ04
set_option linter.unusedVariables false
set_option linter.unusedSimpArgs false

/- Fractions: made of integers, negation, differences, comparison. -/
namespace Go.Proofs.YtekipapkcgoieaaGreatDoor
open Go.RowKit
attribute [local go_sem ↓] Go.wp_at_zero Go.wp_at_succ

set_option maxRecDepth 100000 in
set_option maxHeartbeats 2000000 in
theorem rOf1_any (z : Int) (d : Nat) (w : World) (h1 : -9223372036854775807 ≤ z) (h2 : z ≤ 9223372036854775807) (hd0 : 0 < d) (hd : d ≤ 9223372036854775807) :
    Calls Tryz.prog 24 #[.int .i64 z, .int .i64 (d : Int)] w (RRat w (mkRat z d)) := by
  go_enter Tryz.func24, Tryz.ntmps24
  go_wp2_with fail
  obtain ⟨W, hW⟩ : ∃ W : World, W = w.alloc (.cells #[.bool false, .slice none 0 0, .bool false, .slice none 0 0] 39) := ⟨_, rfl⟩
  rw [← hW]
  have hE : Ext w W := by rw [hW]; exact (Ext.refl w).alloc _
  have hB1 : Blk W (w.heap.size) 39 #[.bool false, .slice none 0 0, .bool false, .slice none 0 0] := by rw [hW]; exact Blk.newAt _ _ _ (by simp)
  clear hW
  refine (Of1_any z _ h1 h2).mono ?_
  rintro e w1 ⟨s1, A1, n1, c1, rfl, hm1, he1⟩
  go_wp2_with fail
  refine (Of1_any (d : Int) _ (by omega) (by omega)).mono ?_
  rintro e w2 ⟨s2, A2, n2, c2, rfl, hm2, he2⟩
  go_wp2_with fail
  refine (over_any _ _ _ _ z d _ (by omega) hd0 (by omega) (hm1.ext he2) hm2).mono ?_
  rintro e w6 ⟨s, A, n, c, s', A', n', c', rfl, hm6, he6⟩
  have hEE : Ext W w6 := (he1.trans he2).trans he6
  have hq6 := (hB1.ext hEE).four
  go_wp2
  refine bodyPost_ret (v := .agg #[.bool s, .slice A n c, .bool s', .slice A' n' c']) (by simp [results, Tryz.results24, go_sem, hq6]) rfl ?_
  exact RRat.close hE hEE hB1 (by omega) hm6.1 hm6.2

set_option maxRecDepth 100000 in
set_option maxHeartbeats 2000000 in
theorem rNeg1_any (b1 v1 b2 v2 : Value) (q : Rat) (w : World) (hx : (wordsOf q.num.natAbs).length ≤ 1000000) (h1 : IsRat w b1 v1 b2 v2 q) :
    Calls Tryz.prog 60 #[.agg #[b1, v1, b2, v2]] w (RRat w (-q)) := by
  obtain ⟨s1, A1, n1, c1, s2, A2, n2, c2, rfl, rfl, rfl, rfl⟩ := h1.form
  have H1 := Lib.hid h1.1
  have H2 := Lib.hid h1.2
  clear h1
  go_enter Tryz.func60, Tryz.ntmps60
  go_wp2_with fail
  obtain ⟨W, hW⟩ : ∃ W : World, W = (w.alloc (.cells #[.bool s1, .slice A1 n1 c1, .bool s2, .slice A2 n2 c2] 39)).alloc (.cells #[.bool false, .slice none 0 0, .bool false, .slice none 0 0] 39) := ⟨_, rfl⟩
  rw [← hW]
  have hE : Ext w W := by rw [hW]; exact ((Ext.refl w).alloc _).alloc _
  have hB1 : Blk W (w.heap.size) 39 #[.bool s1, .slice A1 n1 c1, .bool s2, .slice A2 n2 c2] := by rw [hW]; exact (Blk.newAt _ _ _ (by simp)).alloc _
  have hB2 : Blk W (w.heap.size + 1) 39 #[.bool false, .slice none 0 0, .bool false, .slice none 0 0] := by rw [hW]; exact Blk.newAt _ _ _ (by simp)
  clear hW
  have HK : Hid (∀ w', Ext W w' → Ext w w' ∧ w'.cell? ⟨w.heap.size, 0, none⟩ = some (.bool s1) ∧ w'.cell? ⟨w.heap.size, 1, none⟩ = some (.slice A1 n1 c1) ∧ w'.cell? ⟨w.heap.size, 2, none⟩ = some (.bool s2) ∧ w'.cell? ⟨w.heap.size, 3, none⟩ = some (.slice A2 n2 c2)) := fun w' h => ⟨hE.trans h, (hB1.ext h).cell 0, (hB1.ext h).cell 1, (hB1.ext h).cell 2, (hB1.ext h).cell 3⟩
  have HK2 : Hid (∀ w' w'', w'.grownBy w'' (some (w.heap.size + 1)) → Ext W w' → Ext w w'' ∧ w''.cell? ⟨w.heap.size, 0, none⟩ = some (.bool s1) ∧ w''.cell? ⟨w.heap.size, 1, none⟩ = some (.slice A1 n1 c1) ∧ w''.cell? ⟨w.heap.size, 2, none⟩ = some (.bool s2) ∧ w''.cell? ⟨w.heap.size, 3, none⟩ = some (.slice A2 n2 c2)) := fun w' w'' hg h => ⟨(hE.trans h).grown hg (by intro k hk; injection hk with hk; omega), (hg.cell_far ⟨w.heap.size, 0, none⟩ (hB1.ext h).lt (by first | (simp; done) | (simp; omega))).trans ((hB1.ext h).cell 0), (hg.cell_far ⟨w.heap.size, 1, none⟩ (hB1.ext h).lt (by first | (simp; done) | (simp; omega))).trans ((hB1.ext h).cell 1), (hg.cell_far ⟨w.heap.size, 2, none⟩ (hB1.ext h).lt (by first | (simp; done) | (simp; omega))).trans ((hB1.ext h).cell 2), (hg.cell_far ⟨w.heap.size, 3, none⟩ (hB1.ext h).lt (by first | (simp; done) | (simp; omega))).trans ((hB1.ext h).cell 3)⟩
  go_region_held3 (fun w' => Ext w w' ∧ w'.cell? ⟨w.heap.size, 0, none⟩ = some (.bool s1) ∧ w'.cell? ⟨w.heap.size, 1, none⟩ = some (.slice A1 n1 c1) ∧ w'.cell? ⟨w.heap.size, 2, none⟩ = some (.bool s2) ∧ w'.cell? ⟨w.heap.size, 3, none⟩ = some (.slice A2 n2 c2))
    (first | (refine HK.out _ ?_; (repeat (first | with_reducible assumption | with_reducible exact Ext.refl _ | with_reducible refine Ext.drew ?_ | with_reducible refine Ext.drewN ?_ _ | with_reducible refine Ext.alloc ?_ _ | with_reducible refine Ext.set2 ?_ (by omega) _ _ | with_reducible refine Ext.setCell ?_ (by first | omega | (simp; done) | (simp; omega)) _ | with_reducible refine Ext.trans ?_ (by with_reducible assumption))); done) | exact HK2.out _ _ (by (repeat (first | apply grow_set | exact World.grownBy.refl _ _))) (by (repeat (first | with_reducible assumption | with_reducible exact Ext.refl _ | with_reducible refine Ext.drew ?_ | with_reducible refine Ext.drewN ?_ _ | with_reducible refine Ext.alloc ?_ _ | with_reducible refine Ext.set2 ?_ (by omega) _ _ | with_reducible refine Ext.setCell ?_ (by first | omega | (simp; done) | (simp; omega)) _ | with_reducible refine Ext.trans ?_ (by with_reducible assumption)))))
    (first | (go_at_call 100; (with_reducible refine (iNeg1_any _ _ _ _ hx (H1.out.ext (by (repeat (first | with_reducible assumption | with_reducible exact Ext.refl _ | with_reducible refine Ext.drew ?_ | with_reducible refine Ext.drewN ?_ _ | with_reducible refine Ext.alloc ?_ _ | with_reducible refine Ext.set2 ?_ (by omega) _ _ | with_reducible refine Ext.setCell ?_ (by first | omega | (simp; done) | (simp; omega)) _ | with_reducible refine Ext.trans ?_ (by with_reducible assumption)))))).mono ?_); rintro e w3 ⟨s3, A3, n3, c3, rfl, hm3, he3⟩; have hq5 := (hB2.ext (show Ext W w3 by (repeat (first | with_reducible assumption | with_reducible exact Ext.refl _ | with_reducible refine Ext.drew ?_ | with_reducible refine Ext.drewN ?_ _ | with_reducible refine Ext.alloc ?_ _ | with_reducible refine Ext.set2 ?_ (by omega) _ _ | with_reducible refine Ext.setCell ?_ (by first | omega | (simp; done) | (simp; omega)) _ | with_reducible refine Ext.trans ?_ (by with_reducible assumption))))).four))
  go_wp2
  refine bodyPost_ret (v := .agg #[.bool s3, .slice A3 n3 c3, .bool s2, .slice A2 n2 c2]) (by simp [results, Tryz.results60, go_sem, hq5]) rfl ?_
  have hEE : Ext W w3 := by (repeat (first | with_reducible assumption | with_reducible exact Ext.refl _ | with_reducible refine Ext.drew ?_ | with_reducible refine Ext.drewN ?_ _ | with_reducible refine Ext.alloc ?_ _ | with_reducible refine Ext.set2 ?_ (by omega) _ _ | with_reducible refine Ext.setCell ?_ (by first | omega | (simp; done) | (simp; omega)) _ | with_reducible refine Ext.trans ?_ (by with_reducible assumption)))
  exact RRat.close hE hEE hB2 (by omega) (by rw [Rat.neg_num]; exact hm3) (by rw [Rat.neg_den]; exact H2.out.ext (hE.trans hEE))

set_option maxRecDepth 100000 in
set_option maxHeartbeats 2000000 in
theorem rsub1_any (b1 v1 b2 v2 b3 v3 b4 v4 : Value) (p q : Rat) (w : World) (hx : p.num.natAbs ≤ 18446744073709551615) (hy : q.num.natAbs ≤ 18446744073709551615) (hd : p.den * q.den < 4294967296) (hn : (p.num * q.den - q.num * p.den).natAbs ≤ 18446744073709551615)
    (h1 : IsRat w b1 v1 b2 v2 p) (h2 : IsRat w b3 v3 b4 v4 q) :
    Calls Tryz.prog 22 #[.agg #[b1, v1, b2, v2], .agg #[b3, v3, b4, v4]] w (RRat w (p - q)) := by
  obtain ⟨s1, A1, n1, c1, s2, A2, n2, c2, rfl, rfl, rfl, rfl⟩ := h1.form
  obtain ⟨s3, A3, n3, c3, s4, A4, n4, c4, rfl, rfl, rfl, rfl⟩ := h2.form
  have P := Lib.hid h1
  have Q := Lib.hid h2
  have hln : (wordsOf q.num.natAbs).length ≤ 1000000 := by have := wordsOf_len2 (m := q.num.natAbs) (by omega); omega
  have hy2 : (-q).num.natAbs ≤ 18446744073709551615 := by rw [Rat.neg_num, Int.natAbs_neg]; exact hy
  have hd2 : p.den * (-q).den < 4294967296 := by rw [Rat.neg_den]; exact hd
  have hn2 : (p.num * (-q).den + (-q).num * p.den).natAbs ≤ 18446744073709551615 := by rw [Rat.neg_num, Rat.neg_den, Int.neg_mul]; exact hn
  clear h1 h2
  go_enter Tryz.func22, Tryz.ntmps22
  go_wp2_with fail
  obtain ⟨W, hW⟩ : ∃ W : World, W = ((w.alloc (.cells #[.bool s1, .slice A1 n1 c1, .bool s2, .slice A2 n2 c2] 39)).alloc (.cells #[.bool s3, .slice A3 n3 c3, .bool s4, .slice A4 n4 c4] 39)).alloc (.cells #[.bool false, .slice none 0 0, .bool false, .slice none 0 0] 39) := ⟨_, rfl⟩
  rw [← hW]
  have hE : Ext w W := by rw [hW]; exact (((Ext.refl w).alloc _).alloc _).alloc _
  have hB1 : Blk W (w.heap.size) 39 #[.bool s1, .slice A1 n1 c1, .bool s2, .slice A2 n2 c2] := by rw [hW]; exact ((Blk.newAt _ _ _ (by simp)).alloc _).alloc _
  have hB2 : Blk W (w.heap.size + 1) 39 #[.bool s3, .slice A3 n3 c3, .bool s4, .slice A4 n4 c4] := by rw [hW]; exact (Blk.newAt _ _ _ (by simp)).alloc _
  have hB3 : Blk W (w.heap.size + 1 + 1) 39 #[.bool false, .slice none 0 0, .bool false, .slice none 0 0] := by rw [hW]; exact Blk.newAt _ _ _ (by simp)
  clear hW
  have HK : Hid (∀ w', Ext W w' → Ext w w' ∧ w'.cell? ⟨w.heap.size, 0, none⟩ = some (.bool s1) ∧ w'.cell? ⟨w.heap.size, 1, none⟩ = some (.slice A1 n1 c1) ∧ w'.cell? ⟨w.heap.size, 2, none⟩ = some (.bool s2) ∧ w'.cell? ⟨w.heap.size, 3, none⟩ = some (.slice A2 n2 c2) ∧ w'.cell? ⟨w.heap.size + 1, 0, none⟩ = some (.bool s3) ∧ w'.cell? ⟨w.heap.size + 1, 1, none⟩ = some (.slice A3 n3 c3) ∧ w'.cell? ⟨w.heap.size + 1, 2, none⟩ = some (.bool s4) ∧ w'.cell? ⟨w.heap.size + 1, 3, none⟩ = some (.slice A4 n4 c4)) := fun w' h => ⟨hE.trans h, (hB1.ext h).cell 0, (hB1.ext h).cell 1, (hB1.ext h).cell 2, (hB1.ext h).cell 3, (hB2.ext h).cell 0, (hB2.ext h).cell 1, (hB2.ext h).cell 2, (hB2.ext h).cell 3⟩
  have HK2 : Hid (∀ w' w'', w'.grownBy w'' (some (w.heap.size + 1 + 1)) → Ext W w' → Ext w w'' ∧ w''.cell? ⟨w.heap.size, 0, none⟩ = some (.bool s1) ∧ w''.cell? ⟨w.heap.size, 1, none⟩ = some (.slice A1 n1 c1) ∧ w''.cell? ⟨w.heap.size, 2, none⟩ = some (.bool s2) ∧ w''.cell? ⟨w.heap.size, 3, none⟩ = some (.slice A2 n2 c2) ∧ w''.cell? ⟨w.heap.size + 1, 0, none⟩ = some (.bool s3) ∧ w''.cell? ⟨w.heap.size + 1, 1, none⟩ = some (.slice A3 n3 c3) ∧ w''.cell? ⟨w.heap.size + 1, 2, none⟩ = some (.bool s4) ∧ w''.cell? ⟨w.heap.size + 1, 3, none⟩ = some (.slice A4 n4 c4)) := fun w' w'' hg h => ⟨(hE.trans h).grown hg (by intro k hk; injection hk with hk; omega), (hg.cell_far ⟨w.heap.size, 0, none⟩ (hB1.ext h).lt (by first | (simp; done) | (simp; omega))).trans ((hB1.ext h).cell 0), (hg.cell_far ⟨w.heap.size, 1, none⟩ (hB1.ext h).lt (by first | (simp; done) | (simp; omega))).trans ((hB1.ext h).cell 1), (hg.cell_far ⟨w.heap.size, 2, none⟩ (hB1.ext h).lt (by first | (simp; done) | (simp; omega))).trans ((hB1.ext h).cell 2), (hg.cell_far ⟨w.heap.size, 3, none⟩ (hB1.ext h).lt (by first | (simp; done) | (simp; omega))).trans ((hB1.ext h).cell 3), (hg.cell_far ⟨w.heap.size + 1, 0, none⟩ (hB2.ext h).lt (by first | (simp; done) | (simp; omega))).trans ((hB2.ext h).cell 0), (hg.cell_far ⟨w.heap.size + 1, 1, none⟩ (hB2.ext h).lt (by first | (simp; done) | (simp; omega))).trans ((hB2.ext h).cell 1), (hg.cell_far ⟨w.heap.size + 1, 2, none⟩ (hB2.ext h).lt (by first | (simp; done) | (simp; omega))).trans ((hB2.ext h).cell 2), (hg.cell_far ⟨w.heap.size + 1, 3, none⟩ (hB2.ext h).lt (by first | (simp; done) | (simp; omega))).trans ((hB2.ext h).cell 3)⟩
  go_region_held3 (fun w' => Ext w w' ∧ w'.cell? ⟨w.heap.size, 0, none⟩ = some (.bool s1) ∧ w'.cell? ⟨w.heap.size, 1, none⟩ = some (.slice A1 n1 c1) ∧ w'.cell? ⟨w.heap.size, 2, none⟩ = some (.bool s2) ∧ w'.cell? ⟨w.heap.size, 3, none⟩ = some (.slice A2 n2 c2) ∧ w'.cell? ⟨w.heap.size + 1, 0, none⟩ = some (.bool s3) ∧ w'.cell? ⟨w.heap.size + 1, 1, none⟩ = some (.slice A3 n3 c3) ∧ w'.cell? ⟨w.heap.size + 1, 2, none⟩ = some (.bool s4) ∧ w'.cell? ⟨w.heap.size + 1, 3, none⟩ = some (.slice A4 n4 c4))
    (first | (refine HK.out _ ?_; (repeat (first | with_reducible assumption | with_reducible exact Ext.refl _ | with_reducible refine Ext.drew ?_ | with_reducible refine Ext.drewN ?_ _ | with_reducible refine Ext.alloc ?_ _ | with_reducible refine Ext.set2 ?_ (by omega) _ _ | with_reducible refine Ext.setCell ?_ (by first | omega | (simp; done) | (simp; omega)) _ | with_reducible refine Ext.trans ?_ (by with_reducible assumption))); done) | exact HK2.out _ _ (by (repeat (first | apply grow_set | exact World.grownBy.refl _ _))) (by (repeat (first | with_reducible assumption | with_reducible exact Ext.refl _ | with_reducible refine Ext.drew ?_ | with_reducible refine Ext.drewN ?_ _ | with_reducible refine Ext.alloc ?_ _ | with_reducible refine Ext.set2 ?_ (by omega) _ _ | with_reducible refine Ext.setCell ?_ (by first | omega | (simp; done) | (simp; omega)) _ | with_reducible refine Ext.trans ?_ (by with_reducible assumption)))))
    (first | (go_at_call 60; (with_reducible refine (rNeg1_any _ _ _ _ _ _ hln (Q.out.ext (by (repeat (first | with_reducible assumption | with_reducible exact Ext.refl _ | with_reducible refine Ext.drew ?_ | with_reducible refine Ext.drewN ?_ _ | with_reducible refine Ext.alloc ?_ _ | with_reducible refine Ext.set2 ?_ (by omega) _ _ | with_reducible refine Ext.setCell ?_ (by first | omega | (simp; done) | (simp; omega)) _ | with_reducible refine Ext.trans ?_ (by with_reducible assumption)))))).mono ?_); rintro e w2 ⟨t2, B2, m2, k2, t3, B3, m3, k3, rfl, hm2, he2⟩) | (go_at_call 14; (with_reducible refine (radd1_any _ _ _ _ _ _ _ _ _ _ _ hx hy2 hd2 hn2 (P.out.ext (by (repeat (first | with_reducible assumption | with_reducible exact Ext.refl _ | with_reducible refine Ext.drew ?_ | with_reducible refine Ext.drewN ?_ _ | with_reducible refine Ext.alloc ?_ _ | with_reducible refine Ext.set2 ?_ (by omega) _ _ | with_reducible refine Ext.setCell ?_ (by first | omega | (simp; done) | (simp; omega)) _ | with_reducible refine Ext.trans ?_ (by with_reducible assumption))))) hm2).mono ?_); rintro e w6 ⟨s, A, n, c, s', A', n', c', rfl, hm6, he6⟩; have hq6 := (hB3.ext (show Ext W w6 by (repeat (first | with_reducible assumption | with_reducible exact Ext.refl _ | with_reducible refine Ext.drew ?_ | with_reducible refine Ext.drewN ?_ _ | with_reducible refine Ext.alloc ?_ _ | with_reducible refine Ext.set2 ?_ (by omega) _ _ | with_reducible refine Ext.setCell ?_ (by first | omega | (simp; done) | (simp; omega)) _ | with_reducible refine Ext.trans ?_ (by with_reducible assumption))))).four))
  go_wp2
  refine bodyPost_ret (v := .agg #[.bool s, .slice A n c, .bool s', .slice A' n' c']) (by simp [results, Tryz.results22, go_sem, hq6]) rfl ?_
  have hEE : Ext W w6 := by (repeat (first | with_reducible assumption | with_reducible exact Ext.refl _ | with_reducible refine Ext.drew ?_ | with_reducible refine Ext.drewN ?_ _ | with_reducible refine Ext.alloc ?_ _ | with_reducible refine Ext.set2 ?_ (by omega) _ _ | with_reducible refine Ext.setCell ?_ (by first | omega | (simp; done) | (simp; omega)) _ | with_reducible refine Ext.trans ?_ (by with_reducible assumption)))
  rw [Rat.sub_eq_add_neg]
  exact RRat.close hE hEE hB3 (by omega) hm6.1 hm6.2

set_option maxRecDepth 100000 in
set_option maxHeartbeats 2000000 in
theorem rNew_any (b1 v1 b2 v2 : Value) (x : Int) (d : Nat) (w : World) (hx : (wordsOf x.natAbs).length ≤ 100) (hd0 : 0 < d) (hd : d < 4294967296) (h1 : IsInt w b1 v1 x) (h2 : IsInt w b2 v2 (d : Int)) :
    Calls Tryz.prog 73 #[.agg #[b1, v1], .agg #[b2, v2]] w (RRatE w (mkRat x d)) := by
  obtain ⟨s1, A1, n1, c1, rfl, rfl, -, -, -⟩ := h1.form
  obtain ⟨s2, A2, n2, c2, rfl, rfl, -, -, -⟩ := h2.form
  have cs : ∀ w', Ext w w' → Calls Tryz.prog 63 #[.agg #[.bool s2, .slice A2 n2 c2]] w' fun e w'' => e = .returned (.int .i64 1) ∧ Ext w' w'' := fun w' h => by
    have := iSign_any _ _ _ w' (h2.ext h)
    rwa [Int.sign_eq_one_of_pos (show (0 : Int) < d by omega)] at this
  have CS := Lib.hid cs
  have H1 := Lib.hid h1
  have H2 := Lib.hid h2
  have hl1 : (wordsOf (x * 1).natAbs).length ≤ 1000 := by rw [Int.mul_one]; omega
  have hl2 : (wordsOf ((d : Nat) : Int).natAbs).length ≤ 1000000 := by have := wordsOf_len1 hd; rw [Int.natAbs_natCast]; omega
  have hl3 : (wordsOf (1 : Int).natAbs).length ≤ 1000 := by decide
  clear h1 h2 cs
  go_enter Tryz.func73, Tryz.ntmps73
  go_wp2_with fail
  obtain ⟨W, hW⟩ : ∃ W : World, W = ((w.alloc (.cells #[.bool s1, .slice A1 n1 c1] 37)).alloc (.cells #[.bool s2, .slice A2 n2 c2] 37)).alloc (.cells #[.bool false, .slice none 0 0, .bool false, .slice none 0 0] 39) := ⟨_, rfl⟩
  rw [← hW]
  have hE : Ext w W := by rw [hW]; exact (((Ext.refl w).alloc _).alloc _).alloc _
  have hB1 : Blk W (w.heap.size) 37 #[.bool s1, .slice A1 n1 c1] := by rw [hW]; exact ((Blk.newAt _ _ _ (by simp)).alloc _).alloc _
  have hB2 : Blk W (w.heap.size + 1) 37 #[.bool s2, .slice A2 n2 c2] := by rw [hW]; exact (Blk.newAt _ _ _ (by simp)).alloc _
  have hB3 : Blk W (w.heap.size + 1 + 1) 39 #[.bool false, .slice none 0 0, .bool false, .slice none 0 0] := by rw [hW]; exact Blk.newAt _ _ _ (by simp)
  clear hW
  have HK : Hid (∀ w', Ext W w' → Ext w w' ∧ w'.cell? ⟨w.heap.size, 0, none⟩ = some (.bool s1) ∧ w'.cell? ⟨w.heap.size, 1, none⟩ = some (.slice A1 n1 c1) ∧ w'.cell? ⟨w.heap.size + 1, 0, none⟩ = some (.bool s2) ∧ w'.cell? ⟨w.heap.size + 1, 1, none⟩ = some (.slice A2 n2 c2)) := fun w' h => ⟨hE.trans h, (hB1.ext h).cell 0, (hB1.ext h).cell 1, (hB2.ext h).cell 0, (hB2.ext h).cell 1⟩
  have HK2 : Hid (∀ w' w'', w'.grownBy w'' (some (w.heap.size + 1 + 1)) → Ext W w' → Ext w w'' ∧ w''.cell? ⟨w.heap.size, 0, none⟩ = some (.bool s1) ∧ w''.cell? ⟨w.heap.size, 1, none⟩ = some (.slice A1 n1 c1) ∧ w''.cell? ⟨w.heap.size + 1, 0, none⟩ = some (.bool s2) ∧ w''.cell? ⟨w.heap.size + 1, 1, none⟩ = some (.slice A2 n2 c2)) := fun w' w'' hg h => ⟨(hE.trans h).grown hg (by intro k hk; injection hk with hk; omega), (hg.cell_far ⟨w.heap.size, 0, none⟩ (hB1.ext h).lt (by first | (simp; done) | (simp; omega))).trans ((hB1.ext h).cell 0), (hg.cell_far ⟨w.heap.size, 1, none⟩ (hB1.ext h).lt (by first | (simp; done) | (simp; omega))).trans ((hB1.ext h).cell 1), (hg.cell_far ⟨w.heap.size + 1, 0, none⟩ (hB2.ext h).lt (by first | (simp; done) | (simp; omega))).trans ((hB2.ext h).cell 0), (hg.cell_far ⟨w.heap.size + 1, 1, none⟩ (hB2.ext h).lt (by first | (simp; done) | (simp; omega))).trans ((hB2.ext h).cell 1)⟩
  refine (CS.out _ hE).mono ?_
  rintro e w0 ⟨rfl, he0⟩
  go_wp2_with fail
  go_region_held3 (fun w' => Ext w w' ∧ w'.cell? ⟨w.heap.size, 0, none⟩ = some (.bool s1) ∧ w'.cell? ⟨w.heap.size, 1, none⟩ = some (.slice A1 n1 c1) ∧ w'.cell? ⟨w.heap.size + 1, 0, none⟩ = some (.bool s2) ∧ w'.cell? ⟨w.heap.size + 1, 1, none⟩ = some (.slice A2 n2 c2))
    (first | (refine HK.out _ ?_; (repeat (first | with_reducible assumption | with_reducible exact Ext.refl _ | with_reducible refine Ext.drew ?_ | with_reducible refine Ext.drewN ?_ _ | with_reducible refine Ext.alloc ?_ _ | with_reducible refine Ext.set2 ?_ (by omega) _ _ | with_reducible refine Ext.setCell ?_ (by first | omega | (simp; done) | (simp; omega)) _ | with_reducible refine Ext.trans ?_ (by with_reducible assumption))); done) | exact HK2.out _ _ (by (repeat (first | apply grow_set | exact World.grownBy.refl _ _))) (by (repeat (first | with_reducible assumption | with_reducible exact Ext.refl _ | with_reducible refine Ext.drew ?_ | with_reducible refine Ext.drewN ?_ _ | with_reducible refine Ext.alloc ?_ _ | with_reducible refine Ext.set2 ?_ (by omega) _ _ | with_reducible refine Ext.setCell ?_ (by first | omega | (simp; done) | (simp; omega)) _ | with_reducible refine Ext.trans ?_ (by with_reducible assumption)))))
    (first | (go_at_call 45; (with_reducible refine (Of_any 1 _ (by omega) (by omega)).mono ?_); rintro e w2 ⟨t2, B2, m2, k2, rfl, hm2, he2⟩) | (go_at_call 78; (with_reducible refine (iMul_any _ _ _ _ x 1 _ (by omega) hl3 (H1.out.ext (by (repeat (first | with_reducible assumption | with_reducible exact Ext.refl _ | with_reducible refine Ext.drew ?_ | with_reducible refine Ext.drewN ?_ _ | with_reducible refine Ext.alloc ?_ _ | with_reducible refine Ext.set2 ?_ (by omega) _ _ | with_reducible refine Ext.setCell ?_ (by first | omega | (simp; done) | (simp; omega)) _ | with_reducible refine Ext.trans ?_ (by with_reducible assumption))))) hm2).mono ?_); rintro e w3 ⟨t3, B3, m3, k3, rfl, hm3, he3⟩) | (go_at_call 107; (with_reducible refine (iAbs_any _ _ _ _ hl2 (H2.out.ext (by (repeat (first | with_reducible assumption | with_reducible exact Ext.refl _ | with_reducible refine Ext.drew ?_ | with_reducible refine Ext.drewN ?_ _ | with_reducible refine Ext.alloc ?_ _ | with_reducible refine Ext.set2 ?_ (by omega) _ _ | with_reducible refine Ext.setCell ?_ (by first | omega | (simp; done) | (simp; omega)) _ | with_reducible refine Ext.trans ?_ (by with_reducible assumption)))))).mono ?_); rintro e w4 ⟨t4, B4, m4, k4, rfl, hm4, he4⟩; rw [Int.natAbs_natCast] at hm4) | (go_at_call 76; (with_reducible refine (reduced_any _ _ _ _ _ _ _ hl1 hd0 hd (hm3.ext (by (repeat (first | with_reducible assumption | with_reducible exact Ext.refl _ | with_reducible refine Ext.drew ?_ | with_reducible refine Ext.drewN ?_ _ | with_reducible refine Ext.alloc ?_ _ | with_reducible refine Ext.set2 ?_ (by omega) _ _ | with_reducible refine Ext.setCell ?_ (by first | omega | (simp; done) | (simp; omega)) _ | with_reducible refine Ext.trans ?_ (by with_reducible assumption))))) hm4).mono ?_); rintro e w6 ⟨s, A, n, c, s', A', n', c', rfl, hm6, he6⟩; have hq6 := (hB3.ext (show Ext W w6 by (repeat (first | with_reducible assumption | with_reducible exact Ext.refl _ | with_reducible refine Ext.drew ?_ | with_reducible refine Ext.drewN ?_ _ | with_reducible refine Ext.alloc ?_ _ | with_reducible refine Ext.set2 ?_ (by omega) _ _ | with_reducible refine Ext.setCell ?_ (by first | omega | (simp; done) | (simp; omega)) _ | with_reducible refine Ext.trans ?_ (by with_reducible assumption))))).four))
  go_wp2
  refine bodyPost_ret (v := .tuple #[.agg #[.bool s, .slice A n c, .bool s', .slice A' n' c'], .int .i64 0]) (by simp [results, Tryz.results73, go_sem, hq6]) rfl ?_
  have hEE : Ext W w6 := by (repeat (first | with_reducible assumption | with_reducible exact Ext.refl _ | with_reducible refine Ext.drew ?_ | with_reducible refine Ext.drewN ?_ _ | with_reducible refine Ext.alloc ?_ _ | with_reducible refine Ext.set2 ?_ (by omega) _ _ | with_reducible refine Ext.setCell ?_ (by first | omega | (simp; done) | (simp; omega)) _ | with_reducible refine Ext.trans ?_ (by with_reducible assumption)))
  rw [Int.mul_one] at hm6
  exact RRatE.close hE hEE hB3 (by omega) hm6.1 hm6.2

set_option maxRecDepth 100000 in
set_option maxHeartbeats 2000000 in
theorem fraction_any (z : Int) (d : Nat) (w : World) (h1 : -9223372036854775807 ≤ z) (h2 : z ≤ 9223372036854775807) (hd0 : 0 < d) (hd : d < 4294967296) :
    Calls Tryz.prog 34 #[.int .i64 z, .int .i64 (d : Int)] w (RRat w (mkRat z d)) := by
  have hlz : (wordsOf z.natAbs).length ≤ 100 := by have := wordsOf_len2 (m := z.natAbs) (by omega); omega
  go_enter Tryz.func34, Tryz.ntmps34
  go_wp2_with fail
  obtain ⟨W, hW⟩ : ∃ W : World, W = w.alloc (.cells #[.bool false, .slice none 0 0, .bool false, .slice none 0 0] 39) := ⟨_, rfl⟩
  rw [← hW]
  have hE : Ext w W := by rw [hW]; exact (Ext.refl w).alloc _
  have hB1 : Blk W (w.heap.size) 39 #[.bool false, .slice none 0 0, .bool false, .slice none 0 0] := by rw [hW]; exact Blk.newAt _ _ _ (by simp)
  clear hW
  refine (Of_any z _ h1 h2).mono ?_
  rintro e w1 ⟨s1, A1, n1, c1, rfl, hm1, he1⟩
  go_wp2_with fail
  refine (Of_any (d : Int) _ (by omega) (by omega)).mono ?_
  rintro e w2 ⟨s2, A2, n2, c2, rfl, hm2, he2⟩
  go_wp2_with fail
  refine (rNew_any _ _ _ _ z d _ hlz hd0 hd (hm1.ext he2) hm2).mono ?_
  rintro e w3 ⟨s, A, n, c, s', A', n', c', rfl, hq, he63⟩
  have he3 : Ext W w3 := (he1.trans he2).trans he63
  have hl3 := (hB1.ext he3).lt
  have hq3 := (hB1.ext he3).four
  go_upto_region 2 with fail
  obtain ⟨W2, hW2⟩ : ∃ W2 : World, W2 = w3.alloc (.cells #[.bool s, .slice A n c, .bool s', .slice A' n' c'] 39) := ⟨_, rfl⟩
  rw [← hW2]
  have k3 : Blk W2 w.heap.size 39 #[.bool false, .slice none 0 0, .bool false, .slice none 0 0] := by rw [hW2]; exact (hB1.ext he3).alloc _
  have k4 : Blk W2 w3.heap.size 39 #[.bool s, .slice A n c, .bool s', .slice A' n' c'] := by rw [hW2]; exact Blk.newAt _ _ _ rfl
  have k5 : Ext w W2 := by rw [hW2]; exact (hE.trans he3).alloc _
  have k6 : IsRat W2 (.bool s) (.slice A n c) (.bool s') (.slice A' n' c') (mkRat z d) := by rw [hW2]; exact ⟨hq.1.alloc _, hq.2.alloc _⟩
  clear hW2 hB1 hq hq3
  generalize w3.heap.size = G at *
  have q3 := k3.four
  have q4 := k4.four
  go_wp2
  refine bodyPost_ret (v := .agg #[.bool s, .slice A n c, .bool s', .slice A' n' c']) (by simp [results, Tryz.results34, go_sem, q3]) rfl ?_
  exact RRat.close k5 (Ext.refl _) k3 (by omega) k6.1 k6.2

end Go.Proofs.YtekipapkcgoieaaGreatDoor

/- Fractions: comparison. -/
namespace Go.Proofs.YtekipapkcgoieaaGreatDoor
open Go.RowKit
attribute [local go_sem ↓] Go.wp_at_zero Go.wp_at_succ

theorem rat_same (p q : Rat) : decide (p = q) = (decide (p.num = q.num) && decide ((p.den : Int) = (q.den : Int))) := by
  rw [← Bool.decide_and, decide_eq_decide]
  exact ⟨fun h => by rw [h]; exact ⟨rfl, rfl⟩, fun h => Rat.ext h.1 (by have := h.2; omega)⟩

set_option maxRecDepth 100000 in
set_option maxHeartbeats 2000000 in
theorem rSame1_any (b1 v1 b2 v2 b3 v3 b4 v4 : Value) (p q : Rat) (w : World) (hp : (wordsOf p.num.natAbs).length ≤ 1000000) (hq : (wordsOf q.num.natAbs).length ≤ 1000000) (hpd : (wordsOf p.den).length ≤ 1000000) (hqd : (wordsOf q.den).length ≤ 1000000)
    (h1 : IsRat w b1 v1 b2 v2 p) (h2 : IsRat w b3 v3 b4 v4 q) :
    Calls Tryz.prog 13 #[.agg #[b1, v1, b2, v2], .agg #[b3, v3, b4, v4]] w fun e w' => e = .returned (.bool (decide (p = q))) ∧ Ext w w' := by
  obtain ⟨s1, A1, n1, c1, s2, A2, n2, c2, rfl, rfl, rfl, rfl⟩ := h1.form
  obtain ⟨s3, A3, n3, c3, s4, A4, n4, c4, rfl, rfl, rfl, rfl⟩ := h2.form
  have cn := fun w' (h : Ext w w') => iSame1_any _ _ _ _ _ _ w' hp hq (h1.1.ext h) (h2.1.ext h)
  have cd := fun w' (h : Ext w w') => iSame1_any _ _ _ _ (p.den : Int) (q.den : Int) w' (by rwa [Int.natAbs_natCast]) (by rwa [Int.natAbs_natCast]) (h1.2.ext h) (h2.2.ext h)
  have HF := Lib.hid (rat_same p q)
  generalize decide (p.num = q.num) = t at *
  generalize decide ((p.den : Int) = (q.den : Int)) = u at *
  have C1 := Lib.hid cn
  have C2 := Lib.hid cd
  clear cn cd h1 h2
  cases t
  · go_enter Tryz.func13, Tryz.ntmps13
    go_wp2_with fail
    obtain ⟨W, hW⟩ : ∃ W : World, W = (w.alloc (.cells #[.bool s1, .slice A1 n1 c1, .bool s2, .slice A2 n2 c2] 39)).alloc (.cells #[.bool s3, .slice A3 n3 c3, .bool s4, .slice A4 n4 c4] 39) := ⟨_, rfl⟩
    rw [← hW]
    have hE : Ext w W := by rw [hW]; exact ((Ext.refl w).alloc _).alloc _
    have hB1 : Blk W (w.heap.size) 39 #[.bool s1, .slice A1 n1 c1, .bool s2, .slice A2 n2 c2] := by rw [hW]; exact (Blk.newAt _ _ _ (by simp)).alloc _
    have hB2 : Blk W (w.heap.size + 1) 39 #[.bool s3, .slice A3 n3 c3, .bool s4, .slice A4 n4 c4] := by rw [hW]; exact Blk.newAt _ _ _ (by simp)
    clear hW
    have HK : Hid (∀ w', Ext W w' → Ext w w' ∧ w'.cell? ⟨w.heap.size, 0, none⟩ = some (.bool s1) ∧ w'.cell? ⟨w.heap.size, 1, none⟩ = some (.slice A1 n1 c1) ∧ w'.cell? ⟨w.heap.size, 2, none⟩ = some (.bool s2) ∧ w'.cell? ⟨w.heap.size, 3, none⟩ = some (.slice A2 n2 c2) ∧ w'.cell? ⟨w.heap.size + 1, 0, none⟩ = some (.bool s3) ∧ w'.cell? ⟨w.heap.size + 1, 1, none⟩ = some (.slice A3 n3 c3) ∧ w'.cell? ⟨w.heap.size + 1, 2, none⟩ = some (.bool s4) ∧ w'.cell? ⟨w.heap.size + 1, 3, none⟩ = some (.slice A4 n4 c4)) := fun w' h => ⟨hE.trans h, (hB1.ext h).cell 0, (hB1.ext h).cell 1, (hB1.ext h).cell 2, (hB1.ext h).cell 3, (hB2.ext h).cell 0, (hB2.ext h).cell 1, (hB2.ext h).cell 2, (hB2.ext h).cell 3⟩
    refine (C1.out _ hE).mono ?_
    rintro e w2 ⟨rfl, he2⟩
    go_wp2
    go_ret
    exact ⟨by rw [HF.out]; rfl, hE.trans he2⟩
  · go_enter Tryz.func13, Tryz.ntmps13
    go_wp2_with fail
    obtain ⟨W, hW⟩ : ∃ W : World, W = (w.alloc (.cells #[.bool s1, .slice A1 n1 c1, .bool s2, .slice A2 n2 c2] 39)).alloc (.cells #[.bool s3, .slice A3 n3 c3, .bool s4, .slice A4 n4 c4] 39) := ⟨_, rfl⟩
    rw [← hW]
    have hE : Ext w W := by rw [hW]; exact ((Ext.refl w).alloc _).alloc _
    have hB1 : Blk W (w.heap.size) 39 #[.bool s1, .slice A1 n1 c1, .bool s2, .slice A2 n2 c2] := by rw [hW]; exact (Blk.newAt _ _ _ (by simp)).alloc _
    have hB2 : Blk W (w.heap.size + 1) 39 #[.bool s3, .slice A3 n3 c3, .bool s4, .slice A4 n4 c4] := by rw [hW]; exact Blk.newAt _ _ _ (by simp)
    clear hW
    have HK : Hid (∀ w', Ext W w' → Ext w w' ∧ w'.cell? ⟨w.heap.size, 0, none⟩ = some (.bool s1) ∧ w'.cell? ⟨w.heap.size, 1, none⟩ = some (.slice A1 n1 c1) ∧ w'.cell? ⟨w.heap.size, 2, none⟩ = some (.bool s2) ∧ w'.cell? ⟨w.heap.size, 3, none⟩ = some (.slice A2 n2 c2) ∧ w'.cell? ⟨w.heap.size + 1, 0, none⟩ = some (.bool s3) ∧ w'.cell? ⟨w.heap.size + 1, 1, none⟩ = some (.slice A3 n3 c3) ∧ w'.cell? ⟨w.heap.size + 1, 2, none⟩ = some (.bool s4) ∧ w'.cell? ⟨w.heap.size + 1, 3, none⟩ = some (.slice A4 n4 c4)) := fun w' h => ⟨hE.trans h, (hB1.ext h).cell 0, (hB1.ext h).cell 1, (hB1.ext h).cell 2, (hB1.ext h).cell 3, (hB2.ext h).cell 0, (hB2.ext h).cell 1, (hB2.ext h).cell 2, (hB2.ext h).cell 3⟩
    refine (C1.out _ hE).mono ?_
    rintro e w2 ⟨rfl, he2⟩
    have p2 := HK.out w2 he2
    go_wp2_with fail
    clear p2
    refine (C2.out _ (hE.trans he2)).mono ?_
    rintro e w3 ⟨rfl, he3⟩
    go_wp2
    go_ret
    exact ⟨by rw [HF.out]; rfl, (hE.trans he2).trans he3⟩

theorem cross_eq (p q : Rat) : (icmp (p.num * q.den) (q.num * p.den) == 0) = decide (p = q) := by
  have h : p = q ↔ p.num * q.den = q.num * p.den := by
    constructor
    · rintro rfl; rfl
    · intro h
      have h1 := Rat.mkRat_self p
      have h2 := Rat.mkRat_self q
      rw [← h1, ← h2]
      exact (Rat.mkRat_eq_iff p.den_nz q.den_nz).2 h
  by_cases h2 : p.num * q.den = q.num * p.den
  · rw [icmp_eq h2]; simp [h.2 h2]
  · rw [decide_eq_false (fun h3 => h2 (h.1 h3))]
    rcases Int.lt_or_gt_of_ne h2 with h3 | h3
    · rw [icmp_lt h3]; rfl
    · rw [icmp_gt h3]; rfl

set_option maxRecDepth 100000 in
set_option maxHeartbeats 2000000 in
theorem rCmp_any (b1 v1 b2 v2 b3 v3 b4 v4 : Value) (p q : Rat) (w : World) (hx : p.num.natAbs ≤ 18446744073709551615) (hy : q.num.natAbs ≤ 18446744073709551615) (hd1 : p.den < 4294967296) (hd2 : q.den < 4294967296)
    (h1 : IsRat w b1 v1 b2 v2 p) (h2 : IsRat w b3 v3 b4 v4 q) :
    Calls Tryz.prog 61 #[.agg #[b1, v1, b2, v2], .agg #[b3, v3, b4, v4]] w fun e w' => e = .returned (.int .i64 (icmp (p.num * q.den) (q.num * p.den))) ∧ Ext w w' := by
  obtain ⟨s1, A1, n1, c1, s2, A2, n2, c2, rfl, rfl, rfl, rfl⟩ := h1.form
  obtain ⟨s3, A3, n3, c3, s4, A4, n4, c4, rfl, rfl, rfl, rfl⟩ := h2.form
  have P1 := Lib.hid h1.1
  have P2 := Lib.hid h1.2
  have Q1 := Lib.hid h2.1
  have Q2 := Lib.hid h2.2
  clear h1 h2
  generalize p.num = x at *
  generalize q.num = y at *
  generalize p.den = d at *
  generalize q.den = f at *
  have lx : (wordsOf x.natAbs).length ≤ 2 := wordsOf_len2 (by omega)
  have ly : (wordsOf y.natAbs).length ≤ 2 := wordsOf_len2 (by omega)
  have ld : (wordsOf ((d : Nat) : Int).natAbs).length ≤ 2 := wordsOf_len2 (by omega)
  have lf : (wordsOf ((f : Nat) : Int).natAbs).length ≤ 2 := wordsOf_len2 (by omega)
  have l1 : (wordsOf (x * f).natAbs).length ≤ 4 := by rw [Int.natAbs_mul]; have := wordsOf_len_mul x.natAbs ((f : Nat) : Int).natAbs; omega
  have l2 : (wordsOf (y * d).natAbs).length ≤ 4 := by rw [Int.natAbs_mul]; have := wordsOf_len_mul y.natAbs ((d : Nat) : Int).natAbs; omega
  go_enter Tryz.func61, Tryz.ntmps61
  go_wp2_with fail
  obtain ⟨W, hW⟩ : ∃ W : World, W = (w.alloc (.cells #[.bool s1, .slice A1 n1 c1, .bool s2, .slice A2 n2 c2] 39)).alloc (.cells #[.bool s3, .slice A3 n3 c3, .bool s4, .slice A4 n4 c4] 39) := ⟨_, rfl⟩
  rw [← hW]
  have hE : Ext w W := by rw [hW]; exact ((Ext.refl w).alloc _).alloc _
  have hB1 : Blk W (w.heap.size) 39 #[.bool s1, .slice A1 n1 c1, .bool s2, .slice A2 n2 c2] := by rw [hW]; exact (Blk.newAt _ _ _ (by simp)).alloc _
  have hB2 : Blk W (w.heap.size + 1) 39 #[.bool s3, .slice A3 n3 c3, .bool s4, .slice A4 n4 c4] := by rw [hW]; exact Blk.newAt _ _ _ (by simp)
  clear hW
  have HK : Hid (∀ w', Ext W w' → Ext w w' ∧ w'.cell? ⟨w.heap.size, 0, none⟩ = some (.bool s1) ∧ w'.cell? ⟨w.heap.size, 1, none⟩ = some (.slice A1 n1 c1) ∧ w'.cell? ⟨w.heap.size, 2, none⟩ = some (.bool s2) ∧ w'.cell? ⟨w.heap.size, 3, none⟩ = some (.slice A2 n2 c2) ∧ w'.cell? ⟨w.heap.size + 1, 0, none⟩ = some (.bool s3) ∧ w'.cell? ⟨w.heap.size + 1, 1, none⟩ = some (.slice A3 n3 c3) ∧ w'.cell? ⟨w.heap.size + 1, 2, none⟩ = some (.bool s4) ∧ w'.cell? ⟨w.heap.size + 1, 3, none⟩ = some (.slice A4 n4 c4)) := fun w' h => ⟨hE.trans h, (hB1.ext h).cell 0, (hB1.ext h).cell 1, (hB1.ext h).cell 2, (hB1.ext h).cell 3, (hB2.ext h).cell 0, (hB2.ext h).cell 1, (hB2.ext h).cell 2, (hB2.ext h).cell 3⟩
  go_region_held3 (fun w' => Ext w w' ∧ w'.cell? ⟨w.heap.size, 0, none⟩ = some (.bool s1) ∧ w'.cell? ⟨w.heap.size, 1, none⟩ = some (.slice A1 n1 c1) ∧ w'.cell? ⟨w.heap.size, 2, none⟩ = some (.bool s2) ∧ w'.cell? ⟨w.heap.size, 3, none⟩ = some (.slice A2 n2 c2) ∧ w'.cell? ⟨w.heap.size + 1, 0, none⟩ = some (.bool s3) ∧ w'.cell? ⟨w.heap.size + 1, 1, none⟩ = some (.slice A3 n3 c3) ∧ w'.cell? ⟨w.heap.size + 1, 2, none⟩ = some (.bool s4) ∧ w'.cell? ⟨w.heap.size + 1, 3, none⟩ = some (.slice A4 n4 c4))
    (first | (refine HK.out _ ?_; (repeat (first | with_reducible assumption | with_reducible exact Ext.refl _ | with_reducible refine Ext.drew ?_ | with_reducible refine Ext.drewN ?_ _ | with_reducible refine Ext.alloc ?_ _ | with_reducible refine Ext.set2 ?_ (by omega) _ _ | with_reducible refine Ext.setCell ?_ (by first | omega | (simp; done) | (simp; omega)) _ | with_reducible refine Ext.trans ?_ (by with_reducible assumption))); done))
    (first | (go_at_call 78; (with_reducible refine (iMul_any _ _ _ _ x f _ (by omega) (by omega) (P1.out.ext (by (repeat (first | with_reducible assumption | with_reducible exact Ext.refl _ | with_reducible refine Ext.drew ?_ | with_reducible refine Ext.drewN ?_ _ | with_reducible refine Ext.alloc ?_ _ | with_reducible refine Ext.set2 ?_ (by omega) _ _ | with_reducible refine Ext.setCell ?_ (by first | omega | (simp; done) | (simp; omega)) _ | with_reducible refine Ext.trans ?_ (by with_reducible assumption))))) (Q2.out.ext (by (repeat (first | with_reducible assumption | with_reducible exact Ext.refl _ | with_reducible refine Ext.drew ?_ | with_reducible refine Ext.drewN ?_ _ | with_reducible refine Ext.alloc ?_ _ | with_reducible refine Ext.set2 ?_ (by omega) _ _ | with_reducible refine Ext.setCell ?_ (by first | omega | (simp; done) | (simp; omega)) _ | with_reducible refine Ext.trans ?_ (by with_reducible assumption)))))).mono ?_); rintro e w2 ⟨t2, B2, m2, k2, rfl, hm2, he2⟩) | (go_at_call 78; (with_reducible refine (iMul_any _ _ _ _ y d _ (by omega) (by omega) (Q1.out.ext (by (repeat (first | with_reducible assumption | with_reducible exact Ext.refl _ | with_reducible refine Ext.drew ?_ | with_reducible refine Ext.drewN ?_ _ | with_reducible refine Ext.alloc ?_ _ | with_reducible refine Ext.set2 ?_ (by omega) _ _ | with_reducible refine Ext.setCell ?_ (by first | omega | (simp; done) | (simp; omega)) _ | with_reducible refine Ext.trans ?_ (by with_reducible assumption))))) (P2.out.ext (by (repeat (first | with_reducible assumption | with_reducible exact Ext.refl _ | with_reducible refine Ext.drew ?_ | with_reducible refine Ext.drewN ?_ _ | with_reducible refine Ext.alloc ?_ _ | with_reducible refine Ext.set2 ?_ (by omega) _ _ | with_reducible refine Ext.setCell ?_ (by first | omega | (simp; done) | (simp; omega)) _ | with_reducible refine Ext.trans ?_ (by with_reducible assumption)))))).mono ?_); rintro e w3 ⟨t3, B3, m3, k3, rfl, hm3, he3⟩) | (go_at_call 101; (with_reducible refine (iCmp_any _ _ _ _ _ _ _ (by omega) (by omega) (hm2.ext (by (repeat (first | with_reducible assumption | with_reducible exact Ext.refl _ | with_reducible refine Ext.drew ?_ | with_reducible refine Ext.drewN ?_ _ | with_reducible refine Ext.alloc ?_ _ | with_reducible refine Ext.set2 ?_ (by omega) _ _ | with_reducible refine Ext.setCell ?_ (by first | omega | (simp; done) | (simp; omega)) _ | with_reducible refine Ext.trans ?_ (by with_reducible assumption))))) hm3).mono ?_); rintro e w4 ⟨rfl, he4⟩))
  go_wp2
  go_ret
  exact ⟨rfl, hE.trans (by (repeat (first | with_reducible assumption | with_reducible exact Ext.refl _ | with_reducible refine Ext.drew ?_ | with_reducible refine Ext.drewN ?_ _ | with_reducible refine Ext.alloc ?_ _ | with_reducible refine Ext.set2 ?_ (by omega) _ _ | with_reducible refine Ext.setCell ?_ (by first | omega | (simp; done) | (simp; omega)) _ | with_reducible refine Ext.trans ?_ (by with_reducible assumption))))⟩

end Go.Proofs.YtekipapkcgoieaaGreatDoor

/- The reference's integers as numbers. -/
namespace Go.Proofs.YtekipapkcgoieaaGreatDoor
open Go.RowKit
attribute [local go_sem ↓] Go.wp_at_zero Go.wp_at_succ

set_option maxRecDepth 100000 in
set_option maxHeartbeats 2000000 in
theorem Low1_neg (b1 v1 : Value) (z : Int) (w : World) (hz : z.natAbs ≤ 9223372036854775807) (hc : z < 0) (h1 : IsInt w b1 v1 z) :
    Calls Tryz.prog 30 #[.agg #[b1, v1]] w fun e w' => e = .returned (.tuple #[.int .i64 z, .bool true]) ∧ Ext w w' := by
  obtain ⟨s, A, n, c, rfl, rfl, es, en, hN⟩ := h1.form
  have hln : (wordsOf z.natAbs).length ≤ 2 := wordsOf_len2 (by omega)
  have hn2 : n ≤ 2 := by omega
  have hs0 : s = true := by rw [es]; simp; omega
  have e1 := two_words (wordsOf z.natAbs) hln
  rw [nv_wordsOf] at e1
  have g1 := cast_get (wordsOf_w32 z.natAbs) 0
  have g2 := cast_get (wordsOf_w32 z.natAbs) 1
  have c1 : ∀ w', Ext w w' → Calls Tryz.prog 67 #[.slice A n c, .int .i64 0] w' fun e w'' => e = .returned (.int .u64 (((wordsOf z.natAbs)[0]?.getD 0 : Nat) : Int)) ∧ w' = w'' := fun w' h => by
    rw [en]; exact word_any _ _ 0 w' (wordsOf_w32 _) (by omega) (by rw [← en]; exact hN.ext h)
  have c2 : ∀ w', Ext w w' → Calls Tryz.prog 67 #[.slice A n c, .int .i64 1] w' fun e w'' => e = .returned (.int .u64 (((wordsOf z.natAbs)[1]?.getD 0 : Nat) : Int)) ∧ w' = w'' := fun w' h => by
    rw [en]; exact word_any _ _ 1 w' (wordsOf_w32 _) (by omega) (by rw [← en]; exact hN.ext h)
  generalize (wordsOf z.natAbs)[0]?.getD 0 = x0 at *
  generalize (wordsOf z.natAbs)[1]?.getD 0 = x1 at *
  have o1 := halves_or2 (x0 : Int) (x1 : Int) (by omega) (by omega) (by omega) (by omega)
  have hV : (x1 : Int) * 4294967296 + (x0 : Int) = (z.natAbs : Int) := by omega
  rw [hV] at o1
  obtain ⟨a0, ha0⟩ : ∃ a0 : Int, a0 = (x0 : Int) := ⟨_, rfl⟩
  obtain ⟨a1, ha1⟩ : ∃ a1 : Int, a1 = (x1 : Int) := ⟨_, rfl⟩
  obtain ⟨V, hVV⟩ : ∃ V : Int, V = (z.natAbs : Int) := ⟨_, rfl⟩
  rw [← ha0] at c1 g1 o1
  rw [← ha1] at c2 g2 o1
  rw [← hVV] at o1
  have hz2 : V = -z := by omega
  have b0 : 0 ≤ V := by omega
  have b1 : V ≤ 9223372036854775807 := by omega
  have C1 := Lib.hid c1
  have C2 := Lib.hid c2
  have HZ := Lib.hid hz2
  clear c1 c2 e1 hV ha0 ha1 hVV hz2 h1 hN es en hln hc hz
  subst hs0
  have hV1 : ¬ (9223372036854775808 : Int) < V := by omega
  have hV2 : (V == (9223372036854775808 : Int)) = false := by rw [beq_eq_false_iff_ne]; omega
  have hV3 : ¬ (2 : Int) < (n : Int) := by omega
  go_enter Tryz.func30, Tryz.ntmps30
  go_wp2_with fail
  obtain ⟨W, hW⟩ : ∃ W : World, W = w.alloc (.cells #[.bool true, .slice A n c] 37) := ⟨_, rfl⟩
  rw [← hW]
  have hE : Ext w W := by rw [hW]; exact (Ext.refl w).alloc _
  have hB1 : Blk W (w.heap.size) 37 #[.bool true, .slice A n c] := by rw [hW]; exact Blk.newAt _ _ _ (by simp)
  clear hW
  have HK : Hid (∀ w', Ext W w' → Ext w w' ∧ w'.cell? ⟨w.heap.size, 0, none⟩ = some (.bool true) ∧ w'.cell? ⟨w.heap.size, 1, none⟩ = some (.slice A n c)) := fun w' h => ⟨hE.trans h, (hB1.ext h).cell 0, (hB1.ext h).cell 1⟩
  go_region_held3 (fun w' => Ext w w' ∧ w'.cell? ⟨w.heap.size, 0, none⟩ = some (.bool true) ∧ w'.cell? ⟨w.heap.size, 1, none⟩ = some (.slice A n c))
    (first | (refine HK.out _ ?_; (repeat (first | with_reducible assumption | with_reducible exact Ext.refl _ | with_reducible refine Ext.drew ?_ | with_reducible refine Ext.drewN ?_ _ | with_reducible refine Ext.alloc ?_ _ | with_reducible refine Ext.set2 ?_ (by omega) _ _ | with_reducible refine Ext.setCell ?_ (by first | omega | (simp; done) | (simp; omega)) _ | with_reducible refine Ext.trans ?_ (by with_reducible assumption))); done))
    (first | (go_at_call 67; (with_reducible refine (C1.out _ (by (repeat (first | with_reducible assumption | with_reducible exact Ext.refl _ | with_reducible refine Ext.drew ?_ | with_reducible refine Ext.drewN ?_ _ | with_reducible refine Ext.alloc ?_ _ | with_reducible refine Ext.set2 ?_ (by omega) _ _ | with_reducible refine Ext.setCell ?_ (by first | omega | (simp; done) | (simp; omega)) _ | with_reducible refine Ext.trans ?_ (by with_reducible assumption))))).mono ?_); rintro e w2 ⟨rfl, he2⟩; subst he2) | (go_at_call 67; (with_reducible refine (C2.out _ (by (repeat (first | with_reducible assumption | with_reducible exact Ext.refl _ | with_reducible refine Ext.drew ?_ | with_reducible refine Ext.drewN ?_ _ | with_reducible refine Ext.alloc ?_ _ | with_reducible refine Ext.set2 ?_ (by omega) _ _ | with_reducible refine Ext.setCell ?_ (by first | omega | (simp; done) | (simp; omega)) _ | with_reducible refine Ext.trans ?_ (by with_reducible assumption))))).mono ?_); rintro e w2 ⟨rfl, he2⟩; subst he2))
  have q1 := HK.out W (Ext.refl W)
  go_wp2
  go_ret2
  refine ⟨?_, hE.trans (by (repeat (first | with_reducible assumption | with_reducible exact Ext.refl _ | with_reducible refine Ext.drew ?_ | with_reducible refine Ext.drewN ?_ _ | with_reducible refine Ext.alloc ?_ _ | with_reducible refine Ext.set2 ?_ (by omega) _ _ | with_reducible refine Ext.setCell ?_ (by first | omega | (simp; done) | (simp; omega)) _ | with_reducible refine Ext.trans ?_ (by with_reducible assumption))))⟩
  show Ending.returned (.tuple #[.int .i64 (-V), .bool true]) = _
  rw [HZ.out, Int.neg_neg]
set_option maxRecDepth 100000 in
set_option maxHeartbeats 2000000 in
theorem Low1_pos (b1 v1 : Value) (z : Int) (w : World) (hz : z.natAbs ≤ 9223372036854775807) (hc : ¬ z < 0) (h1 : IsInt w b1 v1 z) :
    Calls Tryz.prog 30 #[.agg #[b1, v1]] w fun e w' => e = .returned (.tuple #[.int .i64 z, .bool true]) ∧ Ext w w' := by
  obtain ⟨s, A, n, c, rfl, rfl, es, en, hN⟩ := h1.form
  have hln : (wordsOf z.natAbs).length ≤ 2 := wordsOf_len2 (by omega)
  have hn2 : n ≤ 2 := by omega
  have hs0 : s = false := by rw [es]; simp; omega
  have e1 := two_words (wordsOf z.natAbs) hln
  rw [nv_wordsOf] at e1
  have g1 := cast_get (wordsOf_w32 z.natAbs) 0
  have g2 := cast_get (wordsOf_w32 z.natAbs) 1
  have c1 : ∀ w', Ext w w' → Calls Tryz.prog 67 #[.slice A n c, .int .i64 0] w' fun e w'' => e = .returned (.int .u64 (((wordsOf z.natAbs)[0]?.getD 0 : Nat) : Int)) ∧ w' = w'' := fun w' h => by
    rw [en]; exact word_any _ _ 0 w' (wordsOf_w32 _) (by omega) (by rw [← en]; exact hN.ext h)
  have c2 : ∀ w', Ext w w' → Calls Tryz.prog 67 #[.slice A n c, .int .i64 1] w' fun e w'' => e = .returned (.int .u64 (((wordsOf z.natAbs)[1]?.getD 0 : Nat) : Int)) ∧ w' = w'' := fun w' h => by
    rw [en]; exact word_any _ _ 1 w' (wordsOf_w32 _) (by omega) (by rw [← en]; exact hN.ext h)
  generalize (wordsOf z.natAbs)[0]?.getD 0 = x0 at *
  generalize (wordsOf z.natAbs)[1]?.getD 0 = x1 at *
  have o1 := halves_or2 (x0 : Int) (x1 : Int) (by omega) (by omega) (by omega) (by omega)
  have hV : (x1 : Int) * 4294967296 + (x0 : Int) = (z.natAbs : Int) := by omega
  rw [hV] at o1
  obtain ⟨a0, ha0⟩ : ∃ a0 : Int, a0 = (x0 : Int) := ⟨_, rfl⟩
  obtain ⟨a1, ha1⟩ : ∃ a1 : Int, a1 = (x1 : Int) := ⟨_, rfl⟩
  obtain ⟨V, hVV⟩ : ∃ V : Int, V = (z.natAbs : Int) := ⟨_, rfl⟩
  rw [← ha0] at c1 g1 o1
  rw [← ha1] at c2 g2 o1
  rw [← hVV] at o1
  have hz2 : V = z := by omega
  have b0 : 0 ≤ V := by omega
  have b1 : V ≤ 9223372036854775807 := by omega
  have C1 := Lib.hid c1
  have C2 := Lib.hid c2
  have HZ := Lib.hid hz2
  clear c1 c2 e1 hV ha0 ha1 hVV hz2 h1 hN es en hln hc hz
  subst hs0
  have hV1 : ¬ (9223372036854775808 : Int) < V := by omega
  have hV2 : (V == (9223372036854775808 : Int)) = false := by rw [beq_eq_false_iff_ne]; omega
  have hV3 : ¬ (2 : Int) < (n : Int) := by omega
  go_enter Tryz.func30, Tryz.ntmps30
  go_wp2_with fail
  obtain ⟨W, hW⟩ : ∃ W : World, W = w.alloc (.cells #[.bool false, .slice A n c] 37) := ⟨_, rfl⟩
  rw [← hW]
  have hE : Ext w W := by rw [hW]; exact (Ext.refl w).alloc _
  have hB1 : Blk W (w.heap.size) 37 #[.bool false, .slice A n c] := by rw [hW]; exact Blk.newAt _ _ _ (by simp)
  clear hW
  have HK : Hid (∀ w', Ext W w' → Ext w w' ∧ w'.cell? ⟨w.heap.size, 0, none⟩ = some (.bool false) ∧ w'.cell? ⟨w.heap.size, 1, none⟩ = some (.slice A n c)) := fun w' h => ⟨hE.trans h, (hB1.ext h).cell 0, (hB1.ext h).cell 1⟩
  go_region_held3 (fun w' => Ext w w' ∧ w'.cell? ⟨w.heap.size, 0, none⟩ = some (.bool false) ∧ w'.cell? ⟨w.heap.size, 1, none⟩ = some (.slice A n c))
    (first | (refine HK.out _ ?_; (repeat (first | with_reducible assumption | with_reducible exact Ext.refl _ | with_reducible refine Ext.drew ?_ | with_reducible refine Ext.drewN ?_ _ | with_reducible refine Ext.alloc ?_ _ | with_reducible refine Ext.set2 ?_ (by omega) _ _ | with_reducible refine Ext.setCell ?_ (by first | omega | (simp; done) | (simp; omega)) _ | with_reducible refine Ext.trans ?_ (by with_reducible assumption))); done))
    (first | (go_at_call 67; (with_reducible refine (C1.out _ (by (repeat (first | with_reducible assumption | with_reducible exact Ext.refl _ | with_reducible refine Ext.drew ?_ | with_reducible refine Ext.drewN ?_ _ | with_reducible refine Ext.alloc ?_ _ | with_reducible refine Ext.set2 ?_ (by omega) _ _ | with_reducible refine Ext.setCell ?_ (by first | omega | (simp; done) | (simp; omega)) _ | with_reducible refine Ext.trans ?_ (by with_reducible assumption))))).mono ?_); rintro e w2 ⟨rfl, he2⟩; subst he2) | (go_at_call 67; (with_reducible refine (C2.out _ (by (repeat (first | with_reducible assumption | with_reducible exact Ext.refl _ | with_reducible refine Ext.drew ?_ | with_reducible refine Ext.drewN ?_ _ | with_reducible refine Ext.alloc ?_ _ | with_reducible refine Ext.set2 ?_ (by omega) _ _ | with_reducible refine Ext.setCell ?_ (by first | omega | (simp; done) | (simp; omega)) _ | with_reducible refine Ext.trans ?_ (by with_reducible assumption))))).mono ?_); rintro e w2 ⟨rfl, he2⟩; subst he2))
  have q1 := HK.out W (Ext.refl W)
  go_wp2
  go_ret2
  refine ⟨?_, hE.trans (by (repeat (first | with_reducible assumption | with_reducible exact Ext.refl _ | with_reducible refine Ext.drew ?_ | with_reducible refine Ext.drewN ?_ _ | with_reducible refine Ext.alloc ?_ _ | with_reducible refine Ext.set2 ?_ (by omega) _ _ | with_reducible refine Ext.setCell ?_ (by first | omega | (simp; done) | (simp; omega)) _ | with_reducible refine Ext.trans ?_ (by with_reducible assumption))))⟩
  show Ending.returned (.tuple #[.int .i64 V, .bool true]) = _
  rw [HZ.out]

theorem Low1_any (b1 v1 : Value) (z : Int) (w : World) (hz : z.natAbs ≤ 9223372036854775807) (h1 : IsInt w b1 v1 z) :
    Calls Tryz.prog 30 #[.agg #[b1, v1]] w fun e w' => e = .returned (.tuple #[.int .i64 z, .bool true]) ∧ Ext w w' := by
  by_cases h : z < 0
  · exact Low1_neg _ _ _ _ hz h h1
  · exact Low1_pos _ _ _ _ hz h h1

end Go.Proofs.YtekipapkcgoieaaGreatDoor

/- The reference's integers: number of binary digits (one word). -/
namespace Go.Proofs.YtekipapkcgoieaaGreatDoor
open Go.RowKit
attribute [local go_sem ↓] Go.wp_at_zero Go.wp_at_succ

/-- Number of binary digits. -/
def blen (m : Nat) : Nat := if h : m = 0 then 0 else blen (m / 2) + 1
termination_by m
decreasing_by omega
theorem blen_zero : blen 0 = 0 := by rw [blen]; simp
theorem blen_pos {m : Nat} (h : 0 < m) : blen m = blen (m / 2) + 1 := by rw [blen]; simp [show m ≠ 0 by omega]
theorem blen_lt (m : Nat) : m < 2 ^ blen m := by
  induction m using Nat.strongRecOn with
  | _ m ih =>
    by_cases h : m = 0
    · subst h; rw [blen_zero]; decide
    · rw [blen_pos (by omega), Nat.pow_succ]
      have := ih (m / 2) (by omega)
      omega
theorem blen_le (m k : Nat) (h : m < 2 ^ k) : blen m ≤ k := by
  induction k generalizing m with
  | zero => have : m = 0 := by simpa using h
            subst this; rw [blen_zero]; omega
  | succ k ih =>
    by_cases h0 : m = 0
    · subst h0; rw [blen_zero]; omega
    · rw [blen_pos (by omega)]
      rw [Nat.pow_succ] at h
      have := ih (m / 2) (by omega)
      omega

set_option maxRecDepth 100000 in
set_option maxHeartbeats 2000000 in
theorem Bits1_any (b1 v1 : Value) (z : Int) (w : World) (h0 : z ≠ 0) (hz : z.natAbs < 4294967296) (h1 : IsInt w b1 v1 z) :
    Calls Tryz.prog 239 #[.agg #[b1, v1]] w fun e w' => e = .returned (.int .i64 (blen z.natAbs : Int)) ∧ Ext w w' := by
  obtain ⟨s, A, n, c, rfl, rfl, es, en, hN⟩ := h1.form
  have hw := wordsOf_one (m := z.natAbs) (by omega) hz
  unfold IsNat at hN
  rw [hw] at hN en
  obtain rfl : n = 1 := en
  obtain ⟨bb, bo, hB, hc⟩ := hN.word (Ext.refl w) 0 (by simp)
  obtain rfl : A = some ⟨bb, bo, none⟩ := hB
  have hcl : ∀ w', Ext w w' → w'.cell? ⟨bb, bo, none⟩ = some (.int .u32 (z.natAbs : Int)) := fun w' h => by
    obtain ⟨bb', bo', e1, h2⟩ := hN.word h 0 (by simp)
    cases e1
    simpa using h2
  have HC := Lib.hid hcl
  have hb := blen_le z.natAbs 32 (by simpa using hz)
  have hm0 : 0 < z.natAbs := by omega
  generalize z.natAbs = m at *
  clear h1 hN hc hw es hcl h0
  go_enter Tryz.func239, Tryz.ntmps239
  obtain ⟨W', hW'⟩ : ∃ W' : World, W' = w.alloc (.cells #[.bool s, .slice (some ⟨bb, bo, none⟩) 1 c] 37) := ⟨_, rfl⟩
  have hcx := HC.out W' (by rw [hW']; exact (Ext.refl w).alloc _)
  have hlt : bb < w.heap.size := by
    rcases Nat.lt_or_ge bb w.heap.size with h | h
    · exact h
    · have := HC.out w (Ext.refl w)
      simp [World.cell?, Array.getElem?_eq_none h] at this
  have hcw := HC.out w (Ext.refl w)
  go_wp2_with fail
  obtain ⟨W, hW⟩ : ∃ W : World, W = w.alloc (.cells #[.bool s, .slice (some ⟨bb, bo, none⟩) 1 c] 37) := ⟨_, rfl⟩
  rw [← hW]
  have hE : Ext w W := by rw [hW]; exact (Ext.refl w).alloc _
  have hB1 : Blk W (w.heap.size) 37 #[.bool s, .slice (some ⟨bb, bo, none⟩) 1 c] := by rw [hW]; exact Blk.newAt _ _ _ (by simp)
  clear hW
  have HK : Hid (∀ w', Ext W w' → Ext w w' ∧ w'.cell? ⟨w.heap.size, 0, none⟩ = some (.bool s) ∧ w'.cell? ⟨w.heap.size, 1, none⟩ = some (.slice (some ⟨bb, bo, none⟩) 1 c)) := fun w' h => ⟨hE.trans h, (hB1.ext h).cell 0, (hB1.ext h).cell 1⟩
  go_loopw [3, 4] (fun t x wr => ∃ (k y : Nat), t = .int .i64 (k : Int) ∧ x = .int .u32 (y : Int) ∧ y ≤ m ∧ Hid (k + blen y = blen m) ∧ k ≤ 32 ∧ wr = W) (fun _ x _ => (intOf x).toNat)
  case atStart => exact ⟨0, m, rfl, rfl, Nat.le_refl _, (by show _ = _; omega), by omega, rfl⟩
  case round =>
    obtain ⟨k, y, rfl, rfl, hy, hk, hk32, rfl⟩ := hrel
    by_cases h : 0 < y
    · have hy0 : (0 : Int) < (y : Int) := by omega
      have hk2 := hk.out
      rw [blen_pos h] at hk2
      have HK3 := Lib.hid hk2
      clear hk hk2
      go_wp2
      go_roundw
      case rel => exact ⟨k + 1, y / 2, by go_num, by first | (congr 1; done) | (congr 1; omega), by omega, (by show _ = _; have := HK3.out; omega), by have := HK3.out; omega, by trivial⟩
      case measure => (simp [intOf] <;> omega)
    · obtain rfl : y = 0 := by omega
      go_wp2
      go_ret
      have hk2 := hk.out
      rw [blen_zero] at hk2
      exact ⟨ret_int (by omega), hE⟩

end Go.Proofs.YtekipapkcgoieaaGreatDoor

/- The reference's powers of 2 (of a small exponent). -/
namespace Go.Proofs.YtekipapkcgoieaaGreatDoor
open Go.RowKit
attribute [local go_sem ↓] Go.wp_at_zero Go.wp_at_succ

set_option maxHeartbeats 400000 in
theorem word_neg (A : Option Addr) (n c : Nat) (w : World) : Calls Tryz.prog 67 #[.slice A n c, .int .i64 (-1)] w fun e w' => e = .returned (.int .u64 0) ∧ w = w' := by
  go_enter Tryz.func67, Tryz.ntmps67
  go_wp2
  go_ret
  exact ⟨rfl, rfl⟩

set_option maxRecDepth 100000 in
set_option maxHeartbeats 1000000 in
theorem left1_1 (v : Value) (w : World) (h1 : Words w v [1]) :
    Calls Tryz.prog 240 #[v, .int .i64 1] w (RWs w 2 2) := by
  obtain ⟨i0, hi, hz0, hz1, hz2⟩ := info_parts u32_info
  obtain ⟨A, c, rfl⟩ := h1.shape
  have c0 : ∀ w', Ext w w' → Calls Tryz.prog 67 #[.slice A 1 c, .int .i64 0] w' fun e w'' => e = .returned (.int .u64 1) ∧ w' = w'' := fun w' h => word_any _ [1] 0 w' (W32.cons (by omega) W32.nil) (by decide) (h1.ext h)
  have c1 : ∀ w', Ext w w' → Calls Tryz.prog 67 #[.slice A 1 c, .int .i64 1] w' fun e w'' => e = .returned (.int .u64 0) ∧ w' = w'' := fun w' h => word_any _ [1] 1 w' (W32.cons (by omega) W32.nil) (by decide) (h1.ext h)
  have C0 := Lib.hid c0
  have C1 := Lib.hid c1
  clear c0 c1 h1
  have hmk := fun W => run_make_u32s1 W 0 (by omega)
  simp only [Int.natCast_zero, Int.ofNat_zero, Int.cast_ofNat_Int] at hmk
  simp only [List.replicate, u32s, List.map] at hmk
  have hor : bits .or .u64 2 0 = 2 := by decide
  have hor2 : bits .or .u64 0 0 = 0 := by decide
  go_enter Tryz.func240, Tryz.ntmps240
  go_wp2
  obtain ⟨wr, hwr⟩ : ∃ wr : World, wr = w.alloc (.cells #[] 123) := ⟨_, rfl⟩
  rw [← hwr]
  have hE : Ext w wr := by rw [hwr]; exact (Ext.refl w).alloc _
  have hown : wr.ownsRow w.heap.size 123 1 (.slice (some ⟨w.heap.size, 0, none⟩) 0 0) 0 [] := by
    rw [hwr]; exact ⟨rfl, .inr ⟨w.heap.size, 0, #[], rfl, Nat.le_refl _, heap_alloc_new w _, Nat.le_refl _, Nat.zero_le _, rfl, rfl⟩⟩
  have hb0 := hE.size'
  clear hwr hmk
  refine wp_loop_rounds 3 ?_
  rw [rounds_succ]
  go_wp2_with fail
  refine (C0.out _ (by (repeat (first | with_reducible assumption | with_reducible exact Ext.refl _ | with_reducible refine Ext.drew ?_ | with_reducible refine Ext.drewN ?_ _ | with_reducible refine Ext.alloc ?_ _ | with_reducible refine Ext.set2 ?_ (by omega) _ _ | with_reducible refine Ext.setCell ?_ (by first | omega | (simp; done) | (simp; omega)) _ | with_reducible refine Ext.trans ?_ (by with_reducible assumption))))).mono ?_
  rintro e w' ⟨rfl, rfl⟩
  go_wp2_with fail
  refine (word_neg _ _ _ _).mono ?_
  rintro e w' ⟨rfl, rfl⟩
  go_wp2_with (at_builtin; refine Hid.out ?_)
  refine wpList_append_own _ rfl (.tmp 20) (.tmp 35) _ rfl w.heap.size 123 i0 (.int .u32 0) 1 4 Tryz.underlying35 hi hz0 hz1 hz2 rfl (by decide) (.slice (some ⟨w.heap.size, 0, none⟩) 0 0) 0 _ rfl (hown.alloc _) ⟨wr.heap.size, 0, none⟩ 1 1 [.int .u32 2] rfl rfl (cell_one_new _ _ _) (by simp [Value.oneCell']) (by unfold maxLen; omega) (by omega) (by simp; omega) ?_
  intro v' w1 hown' hgrow _
  obtain ⟨g', cap', rfl⟩ := own_succ hown'
  have hE2 : Ext w w1 := (hE.alloc _).grown hgrow (own_block hown)
  clear hown hgrow hE hb0
  have hb0 := hE2.size'
  go_wp2
  rw [rounds_succ]
  go_wp2_with fail
  refine (C1.out _ (by (repeat (first | with_reducible assumption | with_reducible exact Ext.refl _ | with_reducible refine Ext.drew ?_ | with_reducible refine Ext.drewN ?_ _ | with_reducible refine Ext.alloc ?_ _ | with_reducible refine Ext.set2 ?_ (by omega) _ _ | with_reducible refine Ext.setCell ?_ (by first | omega | (simp; done) | (simp; omega)) _ | with_reducible refine Ext.trans ?_ (by with_reducible assumption))))).mono ?_
  rintro e w' ⟨rfl, rfl⟩
  go_wp2_with fail
  refine (C0.out _ (by (repeat (first | with_reducible assumption | with_reducible exact Ext.refl _ | with_reducible refine Ext.drew ?_ | with_reducible refine Ext.drewN ?_ _ | with_reducible refine Ext.alloc ?_ _ | with_reducible refine Ext.set2 ?_ (by omega) _ _ | with_reducible refine Ext.setCell ?_ (by first | omega | (simp; done) | (simp; omega)) _ | with_reducible refine Ext.trans ?_ (by with_reducible assumption))))).mono ?_
  rintro e w' ⟨rfl, rfl⟩
  go_wp2_with (at_builtin; refine Hid.out ?_)
  refine wpList_append_own _ rfl (.tmp 20) (.tmp 35) _ rfl w.heap.size 123 i0 (.int .u32 0) 1 4 Tryz.underlying35 hi hz0 hz1 hz2 rfl (by decide) (.slice (some ⟨g', 0, none⟩) 1 cap') 1 _ rfl (hown'.alloc _) ⟨w1.heap.size, 0, none⟩ 1 1 [.int .u32 0] rfl rfl (cell_one_new _ _ _) (by simp [Value.oneCell']) (by unfold maxLen; omega) (by omega) (by simp; omega) ?_
  intro v' w2 hown2 hgrow _
  obtain ⟨g2, cap2, rfl⟩ := own_succ hown2
  have hE3 : Ext w w2 := (hE2.alloc _).grown hgrow (own_block hown')
  clear hown' hgrow hE2 hb0
  go_wp2
  rw [rounds_succ]
  go_wp2
  go_ret
  exact ⟨[2, 0], _, _, _, rfl, Words.of_own (base := w.heap.size) hown2, W32.cons (by omega) (W32.cons (by omega) W32.nil), by simp [nv], by simp, hE3⟩
set_option maxRecDepth 100000 in
set_option maxHeartbeats 1000000 in
theorem left1_2 (v : Value) (w : World) (h1 : Words w v [1]) :
    Calls Tryz.prog 240 #[v, .int .i64 2] w (RWs w 4 2) := by
  obtain ⟨i0, hi, hz0, hz1, hz2⟩ := info_parts u32_info
  obtain ⟨A, c, rfl⟩ := h1.shape
  have c0 : ∀ w', Ext w w' → Calls Tryz.prog 67 #[.slice A 1 c, .int .i64 0] w' fun e w'' => e = .returned (.int .u64 1) ∧ w' = w'' := fun w' h => word_any _ [1] 0 w' (W32.cons (by omega) W32.nil) (by decide) (h1.ext h)
  have c1 : ∀ w', Ext w w' → Calls Tryz.prog 67 #[.slice A 1 c, .int .i64 1] w' fun e w'' => e = .returned (.int .u64 0) ∧ w' = w'' := fun w' h => word_any _ [1] 1 w' (W32.cons (by omega) W32.nil) (by decide) (h1.ext h)
  have C0 := Lib.hid c0
  have C1 := Lib.hid c1
  clear c0 c1 h1
  have hmk := fun W => run_make_u32s1 W 0 (by omega)
  simp only [Int.natCast_zero, Int.ofNat_zero, Int.cast_ofNat_Int] at hmk
  simp only [List.replicate, u32s, List.map] at hmk
  have hor : bits .or .u64 4 0 = 4 := by decide
  have hor2 : bits .or .u64 0 0 = 0 := by decide
  go_enter Tryz.func240, Tryz.ntmps240
  go_wp2
  obtain ⟨wr, hwr⟩ : ∃ wr : World, wr = w.alloc (.cells #[] 123) := ⟨_, rfl⟩
  rw [← hwr]
  have hE : Ext w wr := by rw [hwr]; exact (Ext.refl w).alloc _
  have hown : wr.ownsRow w.heap.size 123 1 (.slice (some ⟨w.heap.size, 0, none⟩) 0 0) 0 [] := by
    rw [hwr]; exact ⟨rfl, .inr ⟨w.heap.size, 0, #[], rfl, Nat.le_refl _, heap_alloc_new w _, Nat.le_refl _, Nat.zero_le _, rfl, rfl⟩⟩
  have hb0 := hE.size'
  clear hwr hmk
  refine wp_loop_rounds 3 ?_
  rw [rounds_succ]
  go_wp2_with fail
  refine (C0.out _ (by (repeat (first | with_reducible assumption | with_reducible exact Ext.refl _ | with_reducible refine Ext.drew ?_ | with_reducible refine Ext.drewN ?_ _ | with_reducible refine Ext.alloc ?_ _ | with_reducible refine Ext.set2 ?_ (by omega) _ _ | with_reducible refine Ext.setCell ?_ (by first | omega | (simp; done) | (simp; omega)) _ | with_reducible refine Ext.trans ?_ (by with_reducible assumption))))).mono ?_
  rintro e w' ⟨rfl, rfl⟩
  go_wp2_with fail
  refine (word_neg _ _ _ _).mono ?_
  rintro e w' ⟨rfl, rfl⟩
  go_wp2_with (at_builtin; refine Hid.out ?_)
  refine wpList_append_own _ rfl (.tmp 20) (.tmp 35) _ rfl w.heap.size 123 i0 (.int .u32 0) 1 4 Tryz.underlying35 hi hz0 hz1 hz2 rfl (by decide) (.slice (some ⟨w.heap.size, 0, none⟩) 0 0) 0 _ rfl (hown.alloc _) ⟨wr.heap.size, 0, none⟩ 1 1 [.int .u32 4] rfl rfl (cell_one_new _ _ _) (by simp [Value.oneCell']) (by unfold maxLen; omega) (by omega) (by simp; omega) ?_
  intro v' w1 hown' hgrow _
  obtain ⟨g', cap', rfl⟩ := own_succ hown'
  have hE2 : Ext w w1 := (hE.alloc _).grown hgrow (own_block hown)
  clear hown hgrow hE hb0
  have hb0 := hE2.size'
  go_wp2
  rw [rounds_succ]
  go_wp2_with fail
  refine (C1.out _ (by (repeat (first | with_reducible assumption | with_reducible exact Ext.refl _ | with_reducible refine Ext.drew ?_ | with_reducible refine Ext.drewN ?_ _ | with_reducible refine Ext.alloc ?_ _ | with_reducible refine Ext.set2 ?_ (by omega) _ _ | with_reducible refine Ext.setCell ?_ (by first | omega | (simp; done) | (simp; omega)) _ | with_reducible refine Ext.trans ?_ (by with_reducible assumption))))).mono ?_
  rintro e w' ⟨rfl, rfl⟩
  go_wp2_with fail
  refine (C0.out _ (by (repeat (first | with_reducible assumption | with_reducible exact Ext.refl _ | with_reducible refine Ext.drew ?_ | with_reducible refine Ext.drewN ?_ _ | with_reducible refine Ext.alloc ?_ _ | with_reducible refine Ext.set2 ?_ (by omega) _ _ | with_reducible refine Ext.setCell ?_ (by first | omega | (simp; done) | (simp; omega)) _ | with_reducible refine Ext.trans ?_ (by with_reducible assumption))))).mono ?_
  rintro e w' ⟨rfl, rfl⟩
  go_wp2_with (at_builtin; refine Hid.out ?_)
  refine wpList_append_own _ rfl (.tmp 20) (.tmp 35) _ rfl w.heap.size 123 i0 (.int .u32 0) 1 4 Tryz.underlying35 hi hz0 hz1 hz2 rfl (by decide) (.slice (some ⟨g', 0, none⟩) 1 cap') 1 _ rfl (hown'.alloc _) ⟨w1.heap.size, 0, none⟩ 1 1 [.int .u32 0] rfl rfl (cell_one_new _ _ _) (by simp [Value.oneCell']) (by unfold maxLen; omega) (by omega) (by simp; omega) ?_
  intro v' w2 hown2 hgrow _
  obtain ⟨g2, cap2, rfl⟩ := own_succ hown2
  have hE3 : Ext w w2 := (hE2.alloc _).grown hgrow (own_block hown')
  clear hown' hgrow hE2 hb0
  go_wp2
  rw [rounds_succ]
  go_wp2
  go_ret
  exact ⟨[4, 0], _, _, _, rfl, Words.of_own (base := w.heap.size) hown2, W32.cons (by omega) (W32.cons (by omega) W32.nil), by simp [nv], by simp, hE3⟩
set_option maxRecDepth 100000 in
set_option maxHeartbeats 1000000 in
theorem left1_3 (v : Value) (w : World) (h1 : Words w v [1]) :
    Calls Tryz.prog 240 #[v, .int .i64 3] w (RWs w 8 2) := by
  obtain ⟨i0, hi, hz0, hz1, hz2⟩ := info_parts u32_info
  obtain ⟨A, c, rfl⟩ := h1.shape
  have c0 : ∀ w', Ext w w' → Calls Tryz.prog 67 #[.slice A 1 c, .int .i64 0] w' fun e w'' => e = .returned (.int .u64 1) ∧ w' = w'' := fun w' h => word_any _ [1] 0 w' (W32.cons (by omega) W32.nil) (by decide) (h1.ext h)
  have c1 : ∀ w', Ext w w' → Calls Tryz.prog 67 #[.slice A 1 c, .int .i64 1] w' fun e w'' => e = .returned (.int .u64 0) ∧ w' = w'' := fun w' h => word_any _ [1] 1 w' (W32.cons (by omega) W32.nil) (by decide) (h1.ext h)
  have C0 := Lib.hid c0
  have C1 := Lib.hid c1
  clear c0 c1 h1
  have hmk := fun W => run_make_u32s1 W 0 (by omega)
  simp only [Int.natCast_zero, Int.ofNat_zero, Int.cast_ofNat_Int] at hmk
  simp only [List.replicate, u32s, List.map] at hmk
  have hor : bits .or .u64 8 0 = 8 := by decide
  have hor2 : bits .or .u64 0 0 = 0 := by decide
  go_enter Tryz.func240, Tryz.ntmps240
  go_wp2
  obtain ⟨wr, hwr⟩ : ∃ wr : World, wr = w.alloc (.cells #[] 123) := ⟨_, rfl⟩
  rw [← hwr]
  have hE : Ext w wr := by rw [hwr]; exact (Ext.refl w).alloc _
  have hown : wr.ownsRow w.heap.size 123 1 (.slice (some ⟨w.heap.size, 0, none⟩) 0 0) 0 [] := by
    rw [hwr]; exact ⟨rfl, .inr ⟨w.heap.size, 0, #[], rfl, Nat.le_refl _, heap_alloc_new w _, Nat.le_refl _, Nat.zero_le _, rfl, rfl⟩⟩
  have hb0 := hE.size'
  clear hwr hmk
  refine wp_loop_rounds 3 ?_
  rw [rounds_succ]
  go_wp2_with fail
  refine (C0.out _ (by (repeat (first | with_reducible assumption | with_reducible exact Ext.refl _ | with_reducible refine Ext.drew ?_ | with_reducible refine Ext.drewN ?_ _ | with_reducible refine Ext.alloc ?_ _ | with_reducible refine Ext.set2 ?_ (by omega) _ _ | with_reducible refine Ext.setCell ?_ (by first | omega | (simp; done) | (simp; omega)) _ | with_reducible refine Ext.trans ?_ (by with_reducible assumption))))).mono ?_
  rintro e w' ⟨rfl, rfl⟩
  go_wp2_with fail
  refine (word_neg _ _ _ _).mono ?_
  rintro e w' ⟨rfl, rfl⟩
  go_wp2_with (at_builtin; refine Hid.out ?_)
  refine wpList_append_own _ rfl (.tmp 20) (.tmp 35) _ rfl w.heap.size 123 i0 (.int .u32 0) 1 4 Tryz.underlying35 hi hz0 hz1 hz2 rfl (by decide) (.slice (some ⟨w.heap.size, 0, none⟩) 0 0) 0 _ rfl (hown.alloc _) ⟨wr.heap.size, 0, none⟩ 1 1 [.int .u32 8] rfl rfl (cell_one_new _ _ _) (by simp [Value.oneCell']) (by unfold maxLen; omega) (by omega) (by simp; omega) ?_
  intro v' w1 hown' hgrow _
  obtain ⟨g', cap', rfl⟩ := own_succ hown'
  have hE2 : Ext w w1 := (hE.alloc _).grown hgrow (own_block hown)
  clear hown hgrow hE hb0
  have hb0 := hE2.size'
  go_wp2
  rw [rounds_succ]
  go_wp2_with fail
  refine (C1.out _ (by (repeat (first | with_reducible assumption | with_reducible exact Ext.refl _ | with_reducible refine Ext.drew ?_ | with_reducible refine Ext.drewN ?_ _ | with_reducible refine Ext.alloc ?_ _ | with_reducible refine Ext.set2 ?_ (by omega) _ _ | with_reducible refine Ext.setCell ?_ (by first | omega | (simp; done) | (simp; omega)) _ | with_reducible refine Ext.trans ?_ (by with_reducible assumption))))).mono ?_
  rintro e w' ⟨rfl, rfl⟩
  go_wp2_with fail
  refine (C0.out _ (by (repeat (first | with_reducible assumption | with_reducible exact Ext.refl _ | with_reducible refine Ext.drew ?_ | with_reducible refine Ext.drewN ?_ _ | with_reducible refine Ext.alloc ?_ _ | with_reducible refine Ext.set2 ?_ (by omega) _ _ | with_reducible refine Ext.setCell ?_ (by first | omega | (simp; done) | (simp; omega)) _ | with_reducible refine Ext.trans ?_ (by with_reducible assumption))))).mono ?_
  rintro e w' ⟨rfl, rfl⟩
  go_wp2_with (at_builtin; refine Hid.out ?_)
  refine wpList_append_own _ rfl (.tmp 20) (.tmp 35) _ rfl w.heap.size 123 i0 (.int .u32 0) 1 4 Tryz.underlying35 hi hz0 hz1 hz2 rfl (by decide) (.slice (some ⟨g', 0, none⟩) 1 cap') 1 _ rfl (hown'.alloc _) ⟨w1.heap.size, 0, none⟩ 1 1 [.int .u32 0] rfl rfl (cell_one_new _ _ _) (by simp [Value.oneCell']) (by unfold maxLen; omega) (by omega) (by simp; omega) ?_
  intro v' w2 hown2 hgrow _
  obtain ⟨g2, cap2, rfl⟩ := own_succ hown2
  have hE3 : Ext w w2 := (hE2.alloc _).grown hgrow (own_block hown')
  clear hown' hgrow hE2 hb0
  go_wp2
  rw [rounds_succ]
  go_wp2
  go_ret
  exact ⟨[8, 0], _, _, _, rfl, Words.of_own (base := w.heap.size) hown2, W32.cons (by omega) (W32.cons (by omega) W32.nil), by simp [nv], by simp, hE3⟩
set_option maxRecDepth 100000 in
set_option maxHeartbeats 1000000 in
theorem left1_4 (v : Value) (w : World) (h1 : Words w v [1]) :
    Calls Tryz.prog 240 #[v, .int .i64 4] w (RWs w 16 2) := by
  obtain ⟨i0, hi, hz0, hz1, hz2⟩ := info_parts u32_info
  obtain ⟨A, c, rfl⟩ := h1.shape
  have c0 : ∀ w', Ext w w' → Calls Tryz.prog 67 #[.slice A 1 c, .int .i64 0] w' fun e w'' => e = .returned (.int .u64 1) ∧ w' = w'' := fun w' h => word_any _ [1] 0 w' (W32.cons (by omega) W32.nil) (by decide) (h1.ext h)
  have c1 : ∀ w', Ext w w' → Calls Tryz.prog 67 #[.slice A 1 c, .int .i64 1] w' fun e w'' => e = .returned (.int .u64 0) ∧ w' = w'' := fun w' h => word_any _ [1] 1 w' (W32.cons (by omega) W32.nil) (by decide) (h1.ext h)
  have C0 := Lib.hid c0
  have C1 := Lib.hid c1
  clear c0 c1 h1
  have hmk := fun W => run_make_u32s1 W 0 (by omega)
  simp only [Int.natCast_zero, Int.ofNat_zero, Int.cast_ofNat_Int] at hmk
  simp only [List.replicate, u32s, List.map] at hmk
  have hor : bits .or .u64 16 0 = 16 := by decide
  have hor2 : bits .or .u64 0 0 = 0 := by decide
  go_enter Tryz.func240, Tryz.ntmps240
  go_wp2
  obtain ⟨wr, hwr⟩ : ∃ wr : World, wr = w.alloc (.cells #[] 123) := ⟨_, rfl⟩
  rw [← hwr]
  have hE : Ext w wr := by rw [hwr]; exact (Ext.refl w).alloc _
  have hown : wr.ownsRow w.heap.size 123 1 (.slice (some ⟨w.heap.size, 0, none⟩) 0 0) 0 [] := by
    rw [hwr]; exact ⟨rfl, .inr ⟨w.heap.size, 0, #[], rfl, Nat.le_refl _, heap_alloc_new w _, Nat.le_refl _, Nat.zero_le _, rfl, rfl⟩⟩
  have hb0 := hE.size'
  clear hwr hmk
  refine wp_loop_rounds 3 ?_
  rw [rounds_succ]
  go_wp2_with fail
  refine (C0.out _ (by (repeat (first | with_reducible assumption | with_reducible exact Ext.refl _ | with_reducible refine Ext.drew ?_ | with_reducible refine Ext.drewN ?_ _ | with_reducible refine Ext.alloc ?_ _ | with_reducible refine Ext.set2 ?_ (by omega) _ _ | with_reducible refine Ext.setCell ?_ (by first | omega | (simp; done) | (simp; omega)) _ | with_reducible refine Ext.trans ?_ (by with_reducible assumption))))).mono ?_
  rintro e w' ⟨rfl, rfl⟩
  go_wp2_with fail
  refine (word_neg _ _ _ _).mono ?_
  rintro e w' ⟨rfl, rfl⟩
  go_wp2_with (at_builtin; refine Hid.out ?_)
  refine wpList_append_own _ rfl (.tmp 20) (.tmp 35) _ rfl w.heap.size 123 i0 (.int .u32 0) 1 4 Tryz.underlying35 hi hz0 hz1 hz2 rfl (by decide) (.slice (some ⟨w.heap.size, 0, none⟩) 0 0) 0 _ rfl (hown.alloc _) ⟨wr.heap.size, 0, none⟩ 1 1 [.int .u32 16] rfl rfl (cell_one_new _ _ _) (by simp [Value.oneCell']) (by unfold maxLen; omega) (by omega) (by simp; omega) ?_
  intro v' w1 hown' hgrow _
  obtain ⟨g', cap', rfl⟩ := own_succ hown'
  have hE2 : Ext w w1 := (hE.alloc _).grown hgrow (own_block hown)
  clear hown hgrow hE hb0
  have hb0 := hE2.size'
  go_wp2
  rw [rounds_succ]
  go_wp2_with fail
  refine (C1.out _ (by (repeat (first | with_reducible assumption | with_reducible exact Ext.refl _ | with_reducible refine Ext.drew ?_ | with_reducible refine Ext.drewN ?_ _ | with_reducible refine Ext.alloc ?_ _ | with_reducible refine Ext.set2 ?_ (by omega) _ _ | with_reducible refine Ext.setCell ?_ (by first | omega | (simp; done) | (simp; omega)) _ | with_reducible refine Ext.trans ?_ (by with_reducible assumption))))).mono ?_
  rintro e w' ⟨rfl, rfl⟩
  go_wp2_with fail
  refine (C0.out _ (by (repeat (first | with_reducible assumption | with_reducible exact Ext.refl _ | with_reducible refine Ext.drew ?_ | with_reducible refine Ext.drewN ?_ _ | with_reducible refine Ext.alloc ?_ _ | with_reducible refine Ext.set2 ?_ (by omega) _ _ | with_reducible refine Ext.setCell ?_ (by first | omega | (simp; done) | (simp; omega)) _ | with_reducible refine Ext.trans ?_ (by with_reducible assumption))))).mono ?_
  rintro e w' ⟨rfl, rfl⟩
  go_wp2_with (at_builtin; refine Hid.out ?_)
  refine wpList_append_own _ rfl (.tmp 20) (.tmp 35) _ rfl w.heap.size 123 i0 (.int .u32 0) 1 4 Tryz.underlying35 hi hz0 hz1 hz2 rfl (by decide) (.slice (some ⟨g', 0, none⟩) 1 cap') 1 _ rfl (hown'.alloc _) ⟨w1.heap.size, 0, none⟩ 1 1 [.int .u32 0] rfl rfl (cell_one_new _ _ _) (by simp [Value.oneCell']) (by unfold maxLen; omega) (by omega) (by simp; omega) ?_
  intro v' w2 hown2 hgrow _
  obtain ⟨g2, cap2, rfl⟩ := own_succ hown2
  have hE3 : Ext w w2 := (hE2.alloc _).grown hgrow (own_block hown')
  clear hown' hgrow hE2 hb0
  go_wp2
  rw [rounds_succ]
  go_wp2
  go_ret
  exact ⟨[16, 0], _, _, _, rfl, Words.of_own (base := w.heap.size) hown2, W32.cons (by omega) (W32.cons (by omega) W32.nil), by simp [nv], by simp, hE3⟩
set_option maxRecDepth 100000 in
set_option maxHeartbeats 1000000 in
theorem left1_5 (v : Value) (w : World) (h1 : Words w v [1]) :
    Calls Tryz.prog 240 #[v, .int .i64 5] w (RWs w 32 2) := by
  obtain ⟨i0, hi, hz0, hz1, hz2⟩ := info_parts u32_info
  obtain ⟨A, c, rfl⟩ := h1.shape
  have c0 : ∀ w', Ext w w' → Calls Tryz.prog 67 #[.slice A 1 c, .int .i64 0] w' fun e w'' => e = .returned (.int .u64 1) ∧ w' = w'' := fun w' h => word_any _ [1] 0 w' (W32.cons (by omega) W32.nil) (by decide) (h1.ext h)
  have c1 : ∀ w', Ext w w' → Calls Tryz.prog 67 #[.slice A 1 c, .int .i64 1] w' fun e w'' => e = .returned (.int .u64 0) ∧ w' = w'' := fun w' h => word_any _ [1] 1 w' (W32.cons (by omega) W32.nil) (by decide) (h1.ext h)
  have C0 := Lib.hid c0
  have C1 := Lib.hid c1
  clear c0 c1 h1
  have hmk := fun W => run_make_u32s1 W 0 (by omega)
  simp only [Int.natCast_zero, Int.ofNat_zero, Int.cast_ofNat_Int] at hmk
  simp only [List.replicate, u32s, List.map] at hmk
  have hor : bits .or .u64 32 0 = 32 := by decide
  have hor2 : bits .or .u64 0 0 = 0 := by decide
  go_enter Tryz.func240, Tryz.ntmps240
  go_wp2
  obtain ⟨wr, hwr⟩ : ∃ wr : World, wr = w.alloc (.cells #[] 123) := ⟨_, rfl⟩
  rw [← hwr]
  have hE : Ext w wr := by rw [hwr]; exact (Ext.refl w).alloc _
  have hown : wr.ownsRow w.heap.size 123 1 (.slice (some ⟨w.heap.size, 0, none⟩) 0 0) 0 [] := by
    rw [hwr]; exact ⟨rfl, .inr ⟨w.heap.size, 0, #[], rfl, Nat.le_refl _, heap_alloc_new w _, Nat.le_refl _, Nat.zero_le _, rfl, rfl⟩⟩
  have hb0 := hE.size'
  clear hwr hmk
  refine wp_loop_rounds 3 ?_
  rw [rounds_succ]
  go_wp2_with fail
  refine (C0.out _ (by (repeat (first | with_reducible assumption | with_reducible exact Ext.refl _ | with_reducible refine Ext.drew ?_ | with_reducible refine Ext.drewN ?_ _ | with_reducible refine Ext.alloc ?_ _ | with_reducible refine Ext.set2 ?_ (by omega) _ _ | with_reducible refine Ext.setCell ?_ (by first | omega | (simp; done) | (simp; omega)) _ | with_reducible refine Ext.trans ?_ (by with_reducible assumption))))).mono ?_
  rintro e w' ⟨rfl, rfl⟩
  go_wp2_with fail
  refine (word_neg _ _ _ _).mono ?_
  rintro e w' ⟨rfl, rfl⟩
  go_wp2_with (at_builtin; refine Hid.out ?_)
  refine wpList_append_own _ rfl (.tmp 20) (.tmp 35) _ rfl w.heap.size 123 i0 (.int .u32 0) 1 4 Tryz.underlying35 hi hz0 hz1 hz2 rfl (by decide) (.slice (some ⟨w.heap.size, 0, none⟩) 0 0) 0 _ rfl (hown.alloc _) ⟨wr.heap.size, 0, none⟩ 1 1 [.int .u32 32] rfl rfl (cell_one_new _ _ _) (by simp [Value.oneCell']) (by unfold maxLen; omega) (by omega) (by simp; omega) ?_
  intro v' w1 hown' hgrow _
  obtain ⟨g', cap', rfl⟩ := own_succ hown'
  have hE2 : Ext w w1 := (hE.alloc _).grown hgrow (own_block hown)
  clear hown hgrow hE hb0
  have hb0 := hE2.size'
  go_wp2
  rw [rounds_succ]
  go_wp2_with fail
  refine (C1.out _ (by (repeat (first | with_reducible assumption | with_reducible exact Ext.refl _ | with_reducible refine Ext.drew ?_ | with_reducible refine Ext.drewN ?_ _ | with_reducible refine Ext.alloc ?_ _ | with_reducible refine Ext.set2 ?_ (by omega) _ _ | with_reducible refine Ext.setCell ?_ (by first | omega | (simp; done) | (simp; omega)) _ | with_reducible refine Ext.trans ?_ (by with_reducible assumption))))).mono ?_
  rintro e w' ⟨rfl, rfl⟩
  go_wp2_with fail
  refine (C0.out _ (by (repeat (first | with_reducible assumption | with_reducible exact Ext.refl _ | with_reducible refine Ext.drew ?_ | with_reducible refine Ext.drewN ?_ _ | with_reducible refine Ext.alloc ?_ _ | with_reducible refine Ext.set2 ?_ (by omega) _ _ | with_reducible refine Ext.setCell ?_ (by first | omega | (simp; done) | (simp; omega)) _ | with_reducible refine Ext.trans ?_ (by with_reducible assumption))))).mono ?_
  rintro e w' ⟨rfl, rfl⟩
  go_wp2_with (at_builtin; refine Hid.out ?_)
  refine wpList_append_own _ rfl (.tmp 20) (.tmp 35) _ rfl w.heap.size 123 i0 (.int .u32 0) 1 4 Tryz.underlying35 hi hz0 hz1 hz2 rfl (by decide) (.slice (some ⟨g', 0, none⟩) 1 cap') 1 _ rfl (hown'.alloc _) ⟨w1.heap.size, 0, none⟩ 1 1 [.int .u32 0] rfl rfl (cell_one_new _ _ _) (by simp [Value.oneCell']) (by unfold maxLen; omega) (by omega) (by simp; omega) ?_
  intro v' w2 hown2 hgrow _
  obtain ⟨g2, cap2, rfl⟩ := own_succ hown2
  have hE3 : Ext w w2 := (hE2.alloc _).grown hgrow (own_block hown')
  clear hown' hgrow hE2 hb0
  go_wp2
  rw [rounds_succ]
  go_wp2
  go_ret
  exact ⟨[32, 0], _, _, _, rfl, Words.of_own (base := w.heap.size) hown2, W32.cons (by omega) (W32.cons (by omega) W32.nil), by simp [nv], by simp, hE3⟩

theorem left1_any (n : Nat) (h1 : 1 ≤ n) (h5 : n ≤ 5) (v : Value) (w : World) (h : Words w v [1]) :
    Calls Tryz.prog 240 #[v, .int .i64 (n : Int)] w (RWs w (2 ^ n) 2) := by
  obtain rfl | rfl | rfl | rfl | rfl : n = 1 ∨ n = 2 ∨ n = 3 ∨ n = 4 ∨ n = 5 := by omega
  · exact left1_1 v w h
  · exact left1_2 v w h
  · exact left1_3 v w h
  · exact left1_4 v w h
  · exact left1_5 v w h

end Go.Proofs.YtekipapkcgoieaaGreatDoor

/- The reference's square roots (of small numbers). -/
namespace Go.Proofs.YtekipapkcgoieaaGreatDoor
open Go.RowKit
attribute [local go_sem ↓] Go.wp_at_zero Go.wp_at_succ

theorem newton_step {z s : Nat} (hs : 0 < s) (h : z < (s + 1) * (s + 1)) : z < ((s + z / s) / 2 + 1) * ((s + z / s) / 2 + 1) := by
  have h1 : z < s * (z / s + 1) := by have := Nat.lt_mul_div_succ z hs; simpa [Nat.mul_comm] using this
  generalize z / s = q at *
  obtain ⟨t, ht⟩ : ∃ t, t = (s + q) / 2 + 1 := ⟨_, rfl⟩
  rw [← ht]
  have h2 : s + (q + 1) ≤ 2 * t := by omega
  have h3 : (s + (q + 1)) * (s + (q + 1)) ≤ 2 * t * (2 * t) := Nat.mul_le_mul h2 h2
  have h4 : 4 * (s * (q + 1)) ≤ (s + (q + 1)) * (s + (q + 1)) := by
    generalize q + 1 = p at *
    have : ((s : Int) - p) * ((s : Int) - p) ≥ 0 := by
      rcases Int.le_total 0 ((s : Int) - p) with h | h
      · exact Int.mul_nonneg h h
      · exact Int.mul_nonneg_of_nonpos_of_nonpos h h
    have e1 : ((s : Int) - p) * ((s : Int) - p) = s * s - 2 * (s * p) + p * p := by
      rw [Int.sub_mul, Int.mul_sub, Int.mul_sub, Int.mul_comm (p : Int) s]; omega
    have e2 : (s + p) * (s + p) = s * s + 2 * (s * p) + p * p := by
      rw [Nat.add_mul, Nat.mul_add, Nat.mul_add, Nat.mul_comm p s]; omega
    rw [e2]
    have e3 : (((s * s : Nat)) : Int) = (s : Int) * s := by push_cast; rfl
    have e4 : (((s * p : Nat)) : Int) = (s : Int) * p := by push_cast; rfl
    have e5 : (((p * p : Nat)) : Int) = (p : Int) * p := by push_cast; rfl
    rw [e1, ← e3, ← e4, ← e5] at this
    omega
  have h5 : 2 * t * (2 * t) = 4 * (t * t) := by rw [Nat.mul_mul_mul_comm]
  omega
theorem newton_stop {z s : Nat} (hs : 0 < s) (h : s ≤ (s + z / s) / 2) : s * s ≤ z := by
  have h1 : s ≤ z / s := by omega
  exact (Nat.le_div_iff_mul_le hs).1 h1
theorem newton_start {z n : Nat} (h : n = (blen z + 1) / 2) : z < (2 ^ n + 1) * (2 ^ n + 1) := by
  have h1 := blen_lt z
  have h2 : 2 ^ blen z ≤ 2 ^ (n + n) := Nat.pow_le_pow_right (by omega) (by omega)
  rw [Nat.pow_add] at h2
  have h3 : 2 ^ n * 2 ^ n ≤ (2 ^ n + 1) * (2 ^ n + 1) := Nat.mul_le_mul (by omega) (by omega)
  omega

/-- At the head of a round: the variable holds a number that is not less than the root. -/
def SqI (W : World) (G z k : Nat) (wr : World) : Prop := ∃ (sv : Nat) (s : Bool) (A : Option Addr) (n c : Nat), Blk wr G 37 #[.bool s, .slice A n c] ∧ IsInt wr (.bool s) (.slice A n c) (sv : Int) ∧
  0 < sv ∧ z < (sv + 1) * (sv + 1) ∧ sv ≤ k ∧ sv ≤ 2000 ∧ Ext W wr
/-- Behind the next number: a new variable holds it. -/
def SqT (wr : World) (m : Int) (s6 : Value) (wx : World) : Prop := ∃ (tb : Nat) (s : Bool) (A : Option Addr) (n c : Nat), s6 = .pointer (some ⟨tb, 0, none⟩) ∧ Blk wx tb 37 #[.bool s, .slice A n c] ∧ IsInt wx (.bool s) (.slice A n c) m ∧ Ext wr wx ∧ wr.heap.size ≤ tb
section
variable {wr w5 : World} {s : Bool} {A : Option Addr} {n c tb : Nat} {m : Int} (hE : Ext wr w5) (h : IsInt w5 (.bool s) (.slice A n c) m)
include hE h
theorem sq_f1 : SqT wr m (.pointer (some ⟨w5.heap.size, 0, none⟩)) (w5.alloc (.cells #[.bool s, .slice A n c] 37)) :=
  ⟨_, _, _, _, _, rfl, Blk.newAt _ _ _ rfl, h.alloc _, hE.alloc _, hE.size'⟩
theorem sq_f2 (hb : Blk w5 tb 37 #[.bool false, .slice none 0 0]) (htb : wr.heap.size ≤ tb) : SqT wr m (.pointer (some ⟨tb, 0, none⟩)) ((w5.setCell ⟨tb, 0, none⟩ (.bool s)).setCell ⟨tb, 1, none⟩ (.slice A n c)) :=
  ⟨_, _, _, _, _, rfl, hb.set2 _ _, h.set2 hb.type (by decide) _ _, hE.set2 htb _ _, htb⟩
end

end Go.Proofs.YtekipapkcgoieaaGreatDoor
