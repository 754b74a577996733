/-
  Fractions: made of integers, negation, differences, comparison.
  Fractions: comparison.
  The reference's integers as numbers.
  The reference's integers: number of binary digits (one word).
  The reference's powers of 2 (of a small exponent).
  The reference's square roots (of small numbers).
-/
import Derived.Test.YtddgjlfniabehaaGreatDoorJ07
import Derived.Test.YtddgjlfniabehaaGreatDoorJ05
import Derived.Test.YtddgjlfniabehaaGreatDoorJ04
set_option linter.unusedVariables false
set_option linter.unusedSimpArgs false

/- Fractions: made of integers, negation, differences, comparison. -/
namespace Go.Proofs.YtddgjlfniabehaaGreatDoor
open Go.RowKit
attribute [local go_sem ↓] Go.wp_at_zero Go.wp_at_succ

set_option maxRecDepth 100000 in
set_option maxHeartbeats 2000000 in
theorem rOf1_any (z : Int) (d : Nat) (w : World) (h1 : -9223372036854775807 ≤ z) (h2 : z ≤ 9223372036854775807) (hd0 : 0 < d) (hd : d ≤ 9223372036854775807) :
    Calls Tryz.prog 22 #[.int .i64 z, .int .i64 (d : Int)] w (RRat w (mkRat z d)) := by
  go_enter Tryz.func22, Tryz.ntmps22
  go_wp2_with fail
  obtain ⟨W, hW⟩ : ∃ W : World, W = w.alloc (.cells #[.bool false, .slice none 0 0, .bool false, .slice none 0 0] 39) := ⟨_, rfl⟩
  rw [← hW]
  have hE : Ext w W := by rw [hW]; exact (Ext.refl w).alloc _
  have hB1 : Blk W (w.heap.size) 39 #[.bool false, .slice none 0 0, .bool false, .slice none 0 0] := by rw [hW]; exact Blk.newAt _ _ _ (by simp)
  clear hW
  refine (Of1_any z _ h1 h2).mono ?_
  rintro e w1 ⟨s1, A1, n1, c1, rfl, hm1, he1⟩
  go_wp2_with fail
  refine (Of1_any (d : Int) _ (by omega) (by omega)).mono ?_
  rintro e w2 ⟨s2, A2, n2, c2, rfl, hm2, he2⟩
  go_wp2_with fail
  refine (over_any _ _ _ _ z d _ (by omega) hd0 (by omega) (hm1.ext he2) hm2).mono ?_
  rintro e w6 ⟨s, A, n, c, s', A', n', c', rfl, hm6, he6⟩
  have hEE : Ext W w6 := (he1.trans he2).trans he6
  have hq6 := (hB1.ext hEE).four
  go_wp2
  refine bodyPost_ret (v := .agg #[.bool s, .slice A n c, .bool s', .slice A' n' c']) (by simp [results, Tryz.results22, go_sem, hq6]) rfl ?_
  exact RRat.close hE hEE hB1 (by omega) hm6.1 hm6.2

set_option maxRecDepth 100000 in
set_option maxHeartbeats 2000000 in
theorem rWhole1_any (b1 v1 : Value) (x : Int) (w : World) (h1 : IsInt w b1 v1 x) :
    Calls Tryz.prog 35 #[.agg #[b1, v1]] w (RRat w (x : Rat)) := by
  obtain ⟨s1, A1, n1, c1, rfl, rfl, -, -, -⟩ := h1.form
  have H1 := Lib.hid h1
  clear h1
  go_enter Tryz.func35, Tryz.ntmps35
  go_wp2_with fail
  obtain ⟨W, hW⟩ : ∃ W : World, W = (w.alloc (.cells #[.bool s1, .slice A1 n1 c1] 37)).alloc (.cells #[.bool false, .slice none 0 0, .bool false, .slice none 0 0] 39) := ⟨_, rfl⟩
  rw [← hW]
  have hE : Ext w W := by rw [hW]; exact ((Ext.refl w).alloc _).alloc _
  have hB1 : Blk W (w.heap.size) 37 #[.bool s1, .slice A1 n1 c1] := by rw [hW]; exact (Blk.newAt _ _ _ (by simp)).alloc _
  have hB2 : Blk W (w.heap.size + 1) 39 #[.bool false, .slice none 0 0, .bool false, .slice none 0 0] := by rw [hW]; exact Blk.newAt _ _ _ (by simp)
  clear hW
  have HK : Hid (∀ w', Ext W w' → Ext w w' ∧ w'.cell? ⟨w.heap.size, 0, none⟩ = some (.bool s1) ∧ w'.cell? ⟨w.heap.size, 1, none⟩ = some (.slice A1 n1 c1)) := fun w' h => ⟨hE.trans h, (hB1.ext h).cell 0, (hB1.ext h).cell 1⟩
  have HK2 : Hid (∀ w' w'', w'.grownBy w'' (some (w.heap.size + 1)) → Ext W w' → Ext w w'' ∧ w''.cell? ⟨w.heap.size, 0, none⟩ = some (.bool s1) ∧ w''.cell? ⟨w.heap.size, 1, none⟩ = some (.slice A1 n1 c1)) := fun w' w'' hg h => ⟨(hE.trans h).grown hg (by intro k hk; injection hk with hk; omega), (hg.cell_far ⟨w.heap.size, 0, none⟩ (hB1.ext h).lt (by first | (simp; done) | (simp; omega))).trans ((hB1.ext h).cell 0), (hg.cell_far ⟨w.heap.size, 1, none⟩ (hB1.ext h).lt (by first | (simp; done) | (simp; omega))).trans ((hB1.ext h).cell 1)⟩
  go_region_held3 (fun w' => Ext w w' ∧ w'.cell? ⟨w.heap.size, 0, none⟩ = some (.bool s1) ∧ w'.cell? ⟨w.heap.size, 1, none⟩ = some (.slice A1 n1 c1))
    (first | (refine HK.out _ ?_; (repeat (first | with_reducible assumption | with_reducible exact Ext.refl _ | with_reducible refine Ext.drew ?_ | with_reducible refine Ext.drewN ?_ _ | with_reducible refine Ext.alloc ?_ _ | with_reducible refine Ext.set2 ?_ (by omega) _ _ | with_reducible refine Ext.setCell ?_ (by first | omega | (simp; done) | (simp; omega)) _ | with_reducible refine Ext.trans ?_ (by with_reducible assumption))); done) | exact HK2.out _ _ (by (repeat (first | apply grow_set | exact World.grownBy.refl _ _))) (by (repeat (first | with_reducible assumption | with_reducible exact Ext.refl _ | with_reducible refine Ext.drew ?_ | with_reducible refine Ext.drewN ?_ _ | with_reducible refine Ext.alloc ?_ _ | with_reducible refine Ext.set2 ?_ (by omega) _ _ | with_reducible refine Ext.setCell ?_ (by first | omega | (simp; done) | (simp; omega)) _ | with_reducible refine Ext.trans ?_ (by with_reducible assumption)))))
    (first | (go_at_call 26; (with_reducible refine (Of1_any 1 _ (by omega) (by omega)).mono ?_); rintro e w3 ⟨s3, A3, n3, c3, rfl, hm3, he3⟩; have hq5 := (hB2.ext (show Ext W w3 by (repeat (first | with_reducible assumption | with_reducible exact Ext.refl _ | with_reducible refine Ext.drew ?_ | with_reducible refine Ext.drewN ?_ _ | with_reducible refine Ext.alloc ?_ _ | with_reducible refine Ext.set2 ?_ (by omega) _ _ | with_reducible refine Ext.setCell ?_ (by first | omega | (simp; done) | (simp; omega)) _ | with_reducible refine Ext.trans ?_ (by with_reducible assumption))))).four))
  go_wp2
  refine bodyPost_ret (v := .agg #[.bool s1, .slice A1 n1 c1, .bool s3, .slice A3 n3 c3]) (by simp [results, Tryz.results35, go_sem, hq5]) rfl ?_
  have hEE : Ext W w3 := by (repeat (first | with_reducible assumption | with_reducible exact Ext.refl _ | with_reducible refine Ext.drew ?_ | with_reducible refine Ext.drewN ?_ _ | with_reducible refine Ext.alloc ?_ _ | with_reducible refine Ext.set2 ?_ (by omega) _ _ | with_reducible refine Ext.setCell ?_ (by first | omega | (simp; done) | (simp; omega)) _ | with_reducible refine Ext.trans ?_ (by with_reducible assumption)))
  exact RRat.close hE hEE hB2 (by omega) (by rw [Rat.num_intCast]; exact H1.out.ext (hE.trans hEE)) (by rw [Rat.den_intCast]; exact hm3)

set_option maxRecDepth 100000 in
set_option maxHeartbeats 2000000 in
theorem rNeg1_any (b1 v1 b2 v2 : Value) (q : Rat) (w : World) (hx : (wordsOf q.num.natAbs).length ≤ 1000000) (h1 : IsRat w b1 v1 b2 v2 q) :
    Calls Tryz.prog 72 #[.agg #[b1, v1, b2, v2]] w (RRat w (-q)) := by
  obtain ⟨s1, A1, n1, c1, s2, A2, n2, c2, rfl, rfl, rfl, rfl⟩ := h1.form
  have H1 := Lib.hid h1.1
  have H2 := Lib.hid h1.2
  clear h1
  go_enter Tryz.func72, Tryz.ntmps72
  go_wp2_with fail
  obtain ⟨W, hW⟩ : ∃ W : World, W = (w.alloc (.cells #[.bool s1, .slice A1 n1 c1, .bool s2, .slice A2 n2 c2] 39)).alloc (.cells #[.bool false, .slice none 0 0, .bool false, .slice none 0 0] 39) := ⟨_, rfl⟩
  rw [← hW]
  have hE : Ext w W := by rw [hW]; exact ((Ext.refl w).alloc _).alloc _
  have hB1 : Blk W (w.heap.size) 39 #[.bool s1, .slice A1 n1 c1, .bool s2, .slice A2 n2 c2] := by rw [hW]; exact (Blk.newAt _ _ _ (by simp)).alloc _
  have hB2 : Blk W (w.heap.size + 1) 39 #[.bool false, .slice none 0 0, .bool false, .slice none 0 0] := by rw [hW]; exact Blk.newAt _ _ _ (by simp)
  clear hW
  have HK : Hid (∀ w', Ext W w' → Ext w w' ∧ w'.cell? ⟨w.heap.size, 0, none⟩ = some (.bool s1) ∧ w'.cell? ⟨w.heap.size, 1, none⟩ = some (.slice A1 n1 c1) ∧ w'.cell? ⟨w.heap.size, 2, none⟩ = some (.bool s2) ∧ w'.cell? ⟨w.heap.size, 3, none⟩ = some (.slice A2 n2 c2)) := fun w' h => ⟨hE.trans h, (hB1.ext h).cell 0, (hB1.ext h).cell 1, (hB1.ext h).cell 2, (hB1.ext h).cell 3⟩
  have HK2 : Hid (∀ w' w'', w'.grownBy w'' (some (w.heap.size + 1)) → Ext W w' → Ext w w'' ∧ w''.cell? ⟨w.heap.size, 0, none⟩ = some (.bool s1) ∧ w''.cell? ⟨w.heap.size, 1, none⟩ = some (.slice A1 n1 c1) ∧ w''.cell? ⟨w.heap.size, 2, none⟩ = some (.bool s2) ∧ w''.cell? ⟨w.heap.size, 3, none⟩ = some (.slice A2 n2 c2)) := fun w' w'' hg h => ⟨(hE.trans h).grown hg (by intro k hk; injection hk with hk; omega), (hg.cell_far ⟨w.heap.size, 0, none⟩ (hB1.ext h).lt (by first | (simp; done) | (simp; omega))).trans ((hB1.ext h).cell 0), (hg.cell_far ⟨w.heap.size, 1, none⟩ (hB1.ext h).lt (by first | (simp; done) | (simp; omega))).trans ((hB1.ext h).cell 1), (hg.cell_far ⟨w.heap.size, 2, none⟩ (hB1.ext h).lt (by first | (simp; done) | (simp; omega))).trans ((hB1.ext h).cell 2), (hg.cell_far ⟨w.heap.size, 3, none⟩ (hB1.ext h).lt (by first | (simp; done) | (simp; omega))).trans ((hB1.ext h).cell 3)⟩
  go_region_held3 (fun w' => Ext w w' ∧ w'.cell? ⟨w.heap.size, 0, none⟩ = some (.bool s1) ∧ w'.cell? ⟨w.heap.size, 1, none⟩ = some (.slice A1 n1 c1) ∧ w'.cell? ⟨w.heap.size, 2, none⟩ = some (.bool s2) ∧ w'.cell? ⟨w.heap.size, 3, none⟩ = some (.slice A2 n2 c2))
    (first | (refine HK.out _ ?_; (repeat (first | with_reducible assumption | with_reducible exact Ext.refl _ | with_reducible refine Ext.drew ?_ | with_reducible refine Ext.drewN ?_ _ | with_reducible refine Ext.alloc ?_ _ | with_reducible refine Ext.set2 ?_ (by omega) _ _ | with_reducible refine Ext.setCell ?_ (by first | omega | (simp; done) | (simp; omega)) _ | with_reducible refine Ext.trans ?_ (by with_reducible assumption))); done) | exact HK2.out _ _ (by (repeat (first | apply grow_set | exact World.grownBy.refl _ _))) (by (repeat (first | with_reducible assumption | with_reducible exact Ext.refl _ | with_reducible refine Ext.drew ?_ | with_reducible refine Ext.drewN ?_ _ | with_reducible refine Ext.alloc ?_ _ | with_reducible refine Ext.set2 ?_ (by omega) _ _ | with_reducible refine Ext.setCell ?_ (by first | omega | (simp; done) | (simp; omega)) _ | with_reducible refine Ext.trans ?_ (by with_reducible assumption)))))
    (first | (go_at_call 100; (with_reducible refine (iNeg1_any _ _ _ _ hx (H1.out.ext (by (repeat (first | with_reducible assumption | with_reducible exact Ext.refl _ | with_reducible refine Ext.drew ?_ | with_reducible refine Ext.drewN ?_ _ | with_reducible refine Ext.alloc ?_ _ | with_reducible refine Ext.set2 ?_ (by omega) _ _ | with_reducible refine Ext.setCell ?_ (by first | omega | (simp; done) | (simp; omega)) _ | with_reducible refine Ext.trans ?_ (by with_reducible assumption)))))).mono ?_); rintro e w3 ⟨s3, A3, n3, c3, rfl, hm3, he3⟩; have hq5 := (hB2.ext (show Ext W w3 by (repeat (first | with_reducible assumption | with_reducible exact Ext.refl _ | with_reducible refine Ext.drew ?_ | with_reducible refine Ext.drewN ?_ _ | with_reducible refine Ext.alloc ?_ _ | with_reducible refine Ext.set2 ?_ (by omega) _ _ | with_reducible refine Ext.setCell ?_ (by first | omega | (simp; done) | (simp; omega)) _ | with_reducible refine Ext.trans ?_ (by with_reducible assumption))))).four))
  go_wp2
  refine bodyPost_ret (v := .agg #[.bool s3, .slice A3 n3 c3, .bool s2, .slice A2 n2 c2]) (by simp [results, Tryz.results72, go_sem, hq5]) rfl ?_
  have hEE : Ext W w3 := by (repeat (first | with_reducible assumption | with_reducible exact Ext.refl _ | with_reducible refine Ext.drew ?_ | with_reducible refine Ext.drewN ?_ _ | with_reducible refine Ext.alloc ?_ _ | with_reducible refine Ext.set2 ?_ (by omega) _ _ | with_reducible refine Ext.setCell ?_ (by first | omega | (simp; done) | (simp; omega)) _ | with_reducible refine Ext.trans ?_ (by with_reducible assumption)))
  exact RRat.close hE hEE hB2 (by omega) (by rw [Rat.neg_num]; exact hm3) (by rw [Rat.neg_den]; exact H2.out.ext (hE.trans hEE))

set_option maxRecDepth 100000 in
set_option maxHeartbeats 2000000 in
theorem rsub1_any (b1 v1 b2 v2 b3 v3 b4 v4 : Value) (p q : Rat) (w : World) (hx : p.num.natAbs ≤ 18446744073709551615) (hy : q.num.natAbs ≤ 18446744073709551615) (hd : p.den * q.den < 4294967296) (hn : (p.num * q.den - q.num * p.den).natAbs ≤ 18446744073709551615)
    (h1 : IsRat w b1 v1 b2 v2 p) (h2 : IsRat w b3 v3 b4 v4 q) :
    Calls Tryz.prog 34 #[.agg #[b1, v1, b2, v2], .agg #[b3, v3, b4, v4]] w (RRat w (p - q)) := by
  obtain ⟨s1, A1, n1, c1, s2, A2, n2, c2, rfl, rfl, rfl, rfl⟩ := h1.form
  obtain ⟨s3, A3, n3, c3, s4, A4, n4, c4, rfl, rfl, rfl, rfl⟩ := h2.form
  have P := Lib.hid h1
  have Q := Lib.hid h2
  have hln : (wordsOf q.num.natAbs).length ≤ 1000000 := by have := wordsOf_len2 (m := q.num.natAbs) (by omega); omega
  have hy2 : (-q).num.natAbs ≤ 18446744073709551615 := by rw [Rat.neg_num, Int.natAbs_neg]; exact hy
  have hd2 : p.den * (-q).den < 4294967296 := by rw [Rat.neg_den]; exact hd
  have hn2 : (p.num * (-q).den + (-q).num * p.den).natAbs ≤ 18446744073709551615 := by rw [Rat.neg_num, Rat.neg_den, Int.neg_mul]; exact hn
  clear h1 h2
  go_enter Tryz.func34, Tryz.ntmps34
  go_wp2_with fail
  obtain ⟨W, hW⟩ : ∃ W : World, W = ((w.alloc (.cells #[.bool s1, .slice A1 n1 c1, .bool s2, .slice A2 n2 c2] 39)).alloc (.cells #[.bool s3, .slice A3 n3 c3, .bool s4, .slice A4 n4 c4] 39)).alloc (.cells #[.bool false, .slice none 0 0, .bool false, .slice none 0 0] 39) := ⟨_, rfl⟩
  rw [← hW]
  have hE : Ext w W := by rw [hW]; exact (((Ext.refl w).alloc _).alloc _).alloc _
  have hB1 : Blk W (w.heap.size) 39 #[.bool s1, .slice A1 n1 c1, .bool s2, .slice A2 n2 c2] := by rw [hW]; exact ((Blk.newAt _ _ _ (by simp)).alloc _).alloc _
  have hB2 : Blk W (w.heap.size + 1) 39 #[.bool s3, .slice A3 n3 c3, .bool s4, .slice A4 n4 c4] := by rw [hW]; exact (Blk.newAt _ _ _ (by simp)).alloc _
  have hB3 : Blk W (w.heap.size + 1 + 1) 39 #[.bool false, .slice none 0 0, .bool false, .slice none 0 0] := by rw [hW]; exact Blk.newAt _ _ _ (by simp)
  clear hW
  have HK : Hid (∀ w', Ext W w' → Ext w w' ∧ w'.cell? ⟨w.heap.size, 0, none⟩ = some (.bool s1) ∧ w'.cell? ⟨w.heap.size, 1, none⟩ = some (.slice A1 n1 c1) ∧ w'.cell? ⟨w.heap.size, 2, none⟩ = some (.bool s2) ∧ w'.cell? ⟨w.heap.size, 3, none⟩ = some (.slice A2 n2 c2) ∧ w'.cell? ⟨w.heap.size + 1, 0, none⟩ = some (.bool s3) ∧ w'.cell? ⟨w.heap.size + 1, 1, none⟩ = some (.slice A3 n3 c3) ∧ w'.cell? ⟨w.heap.size + 1, 2, none⟩ = some (.bool s4) ∧ w'.cell? ⟨w.heap.size + 1, 3, none⟩ = some (.slice A4 n4 c4)) := fun w' h => ⟨hE.trans h, (hB1.ext h).cell 0, (hB1.ext h).cell 1, (hB1.ext h).cell 2, (hB1.ext h).cell 3, (hB2.ext h).cell 0, (hB2.ext h).cell 1, (hB2.ext h).cell 2, (hB2.ext h).cell 3⟩
  have HK2 : Hid (∀ w' w'', w'.grownBy w'' (some (w.heap.size + 1 + 1)) → Ext W w' → Ext w w'' ∧ w''.cell? ⟨w.heap.size, 0, none⟩ = some (.bool s1) ∧ w''.cell? ⟨w.heap.size, 1, none⟩ = some (.slice A1 n1 c1) ∧ w''.cell? ⟨w.heap.size, 2, none⟩ = some (.bool s2) ∧ w''.cell? ⟨w.heap.size, 3, none⟩ = some (.slice A2 n2 c2) ∧ w''.cell? ⟨w.heap.size + 1, 0, none⟩ = some (.bool s3) ∧ w''.cell? ⟨w.heap.size + 1, 1, none⟩ = some (.slice A3 n3 c3) ∧ w''.cell? ⟨w.heap.size + 1, 2, none⟩ = some (.bool s4) ∧ w''.cell? ⟨w.heap.size + 1, 3, none⟩ = some (.slice A4 n4 c4)) := fun w' w'' hg h => ⟨(hE.trans h).grown hg (by intro k hk; injection hk with hk; omega), (hg.cell_far ⟨w.heap.size, 0, none⟩ (hB1.ext h).lt (by first | (simp; done) | (simp; omega))).trans ((hB1.ext h).cell 0), (hg.cell_far ⟨w.heap.size, 1, none⟩ (hB1.ext h).lt (by first | (simp; done) | (simp; omega))).trans ((hB1.ext h).cell 1), (hg.cell_far ⟨w.heap.size, 2, none⟩ (hB1.ext h).lt (by first | (simp; done) | (simp; omega))).trans ((hB1.ext h).cell 2), (hg.cell_far ⟨w.heap.size, 3, none⟩ (hB1.ext h).lt (by first | (simp; done) | (simp; omega))).trans ((hB1.ext h).cell 3), (hg.cell_far ⟨w.heap.size + 1, 0, none⟩ (hB2.ext h).lt (by first | (simp; done) | (simp; omega))).trans ((hB2.ext h).cell 0), (hg.cell_far ⟨w.heap.size + 1, 1, none⟩ (hB2.ext h).lt (by first | (simp; done) | (simp; omega))).trans ((hB2.ext h).cell 1), (hg.cell_far ⟨w.heap.size + 1, 2, none⟩ (hB2.ext h).lt (by first | (simp; done) | (simp; omega))).trans ((hB2.ext h).cell 2), (hg.cell_far ⟨w.heap.size + 1, 3, none⟩ (hB2.ext h).lt (by first | (simp; done) | (simp; omega))).trans ((hB2.ext h).cell 3)⟩
  go_region_held3 (fun w' => Ext w w' ∧ w'.cell? ⟨w.heap.size, 0, none⟩ = some (.bool s1) ∧ w'.cell? ⟨w.heap.size, 1, none⟩ = some (.slice A1 n1 c1) ∧ w'.cell? ⟨w.heap.size, 2, none⟩ = some (.bool s2) ∧ w'.cell? ⟨w.heap.size, 3, none⟩ = some (.slice A2 n2 c2) ∧ w'.cell? ⟨w.heap.size + 1, 0, none⟩ = some (.bool s3) ∧ w'.cell? ⟨w.heap.size + 1, 1, none⟩ = some (.slice A3 n3 c3) ∧ w'.cell? ⟨w.heap.size + 1, 2, none⟩ = some (.bool s4) ∧ w'.cell? ⟨w.heap.size + 1, 3, none⟩ = some (.slice A4 n4 c4))
    (first | (refine HK.out _ ?_; (repeat (first | with_reducible assumption | with_reducible exact Ext.refl _ | with_reducible refine Ext.drew ?_ | with_reducible refine Ext.drewN ?_ _ | with_reducible refine Ext.alloc ?_ _ | with_reducible refine Ext.set2 ?_ (by omega) _ _ | with_reducible refine Ext.setCell ?_ (by first | omega | (simp; done) | (simp; omega)) _ | with_reducible refine Ext.trans ?_ (by with_reducible assumption))); done) | exact HK2.out _ _ (by (repeat (first | apply grow_set | exact World.grownBy.refl _ _))) (by (repeat (first | with_reducible assumption | with_reducible exact Ext.refl _ | with_reducible refine Ext.drew ?_ | with_reducible refine Ext.drewN ?_ _ | with_reducible refine Ext.alloc ?_ _ | with_reducible refine Ext.set2 ?_ (by omega) _ _ | with_reducible refine Ext.setCell ?_ (by first | omega | (simp; done) | (simp; omega)) _ | with_reducible refine Ext.trans ?_ (by with_reducible assumption)))))
    (first | (go_at_call 72; (with_reducible refine (rNeg1_any _ _ _ _ _ _ hln (Q.out.ext (by (repeat (first | with_reducible assumption | with_reducible exact Ext.refl _ | with_reducible refine Ext.drew ?_ | with_reducible refine Ext.drewN ?_ _ | with_reducible refine Ext.alloc ?_ _ | with_reducible refine Ext.set2 ?_ (by omega) _ _ | with_reducible refine Ext.setCell ?_ (by first | omega | (simp; done) | (simp; omega)) _ | with_reducible refine Ext.trans ?_ (by with_reducible assumption)))))).mono ?_); rintro e w2 ⟨t2, B2, m2, k2, t3, B3, m3, k3, rfl, hm2, he2⟩) | (go_at_call 28; (with_reducible refine (radd1_any _ _ _ _ _ _ _ _ _ _ _ hx hy2 hd2 hn2 (P.out.ext (by (repeat (first | with_reducible assumption | with_reducible exact Ext.refl _ | with_reducible refine Ext.drew ?_ | with_reducible refine Ext.drewN ?_ _ | with_reducible refine Ext.alloc ?_ _ | with_reducible refine Ext.set2 ?_ (by omega) _ _ | with_reducible refine Ext.setCell ?_ (by first | omega | (simp; done) | (simp; omega)) _ | with_reducible refine Ext.trans ?_ (by with_reducible assumption))))) hm2).mono ?_); rintro e w6 ⟨s, A, n, c, s', A', n', c', rfl, hm6, he6⟩; have hq6 := (hB3.ext (show Ext W w6 by (repeat (first | with_reducible assumption | with_reducible exact Ext.refl _ | with_reducible refine Ext.drew ?_ | with_reducible refine Ext.drewN ?_ _ | with_reducible refine Ext.alloc ?_ _ | with_reducible refine Ext.set2 ?_ (by omega) _ _ | with_reducible refine Ext.setCell ?_ (by first | omega | (simp; done) | (simp; omega)) _ | with_reducible refine Ext.trans ?_ (by with_reducible assumption))))).four))
  go_wp2
  refine bodyPost_ret (v := .agg #[.bool s, .slice A n c, .bool s', .slice A' n' c']) (by simp [results, Tryz.results34, go_sem, hq6]) rfl ?_
  have hEE : Ext W w6 := by (repeat (first | with_reducible assumption | with_reducible exact Ext.refl _ | with_reducible refine Ext.drew ?_ | with_reducible refine Ext.drewN ?_ _ | with_reducible refine Ext.alloc ?_ _ | with_reducible refine Ext.set2 ?_ (by omega) _ _ | with_reducible refine Ext.setCell ?_ (by first | omega | (simp; done) | (simp; omega)) _ | with_reducible refine Ext.trans ?_ (by with_reducible assumption)))
  rw [Rat.sub_eq_add_neg]
  exact RRat.close hE hEE hB3 (by omega) hm6.1 hm6.2

set_option maxRecDepth 100000 in
set_option maxHeartbeats 2000000 in
theorem rNew_any (b1 v1 b2 v2 : Value) (x : Int) (d : Nat) (w : World) (hx : (wordsOf x.natAbs).length ≤ 100) (hd0 : 0 < d) (hd : d < 4294967296) (h1 : IsInt w b1 v1 x) (h2 : IsInt w b2 v2 (d : Int)) :
    Calls Tryz.prog 76 #[.agg #[b1, v1], .agg #[b2, v2]] w (RRatE w (mkRat x d)) := by
  obtain ⟨s1, A1, n1, c1, rfl, rfl, -, -, -⟩ := h1.form
  obtain ⟨s2, A2, n2, c2, rfl, rfl, -, -, -⟩ := h2.form
  have cs : ∀ w', Ext w w' → Calls Tryz.prog 108 #[.agg #[.bool s2, .slice A2 n2 c2]] w' fun e w'' => e = .returned (.int .i64 1) ∧ Ext w' w'' := fun w' h => by
    have := iSign_any _ _ _ w' (h2.ext h)
    rwa [Int.sign_eq_one_of_pos (show (0 : Int) < d by omega)] at this
  have CS := Lib.hid cs
  have H1 := Lib.hid h1
  have H2 := Lib.hid h2
  have hl1 : (wordsOf (x * 1).natAbs).length ≤ 1000 := by rw [Int.mul_one]; omega
  have hl2 : (wordsOf ((d : Nat) : Int).natAbs).length ≤ 1000000 := by have := wordsOf_len1 hd; rw [Int.natAbs_natCast]; omega
  have hl3 : (wordsOf (1 : Int).natAbs).length ≤ 1000 := by decide
  clear h1 h2 cs
  go_enter Tryz.func76, Tryz.ntmps76
  go_wp2_with fail
  obtain ⟨W, hW⟩ : ∃ W : World, W = ((w.alloc (.cells #[.bool s1, .slice A1 n1 c1] 37)).alloc (.cells #[.bool s2, .slice A2 n2 c2] 37)).alloc (.cells #[.bool false, .slice none 0 0, .bool false, .slice none 0 0] 39) := ⟨_, rfl⟩
  rw [← hW]
  have hE : Ext w W := by rw [hW]; exact (((Ext.refl w).alloc _).alloc _).alloc _
  have hB1 : Blk W (w.heap.size) 37 #[.bool s1, .slice A1 n1 c1] := by rw [hW]; exact ((Blk.newAt _ _ _ (by simp)).alloc _).alloc _
  have hB2 : Blk W (w.heap.size + 1) 37 #[.bool s2, .slice A2 n2 c2] := by rw [hW]; exact (Blk.newAt _ _ _ (by simp)).alloc _
  have hB3 : Blk W (w.heap.size + 1 + 1) 39 #[.bool false, .slice none 0 0, .bool false, .slice none 0 0] := by rw [hW]; exact Blk.newAt _ _ _ (by simp)
  clear hW
  have HK : Hid (∀ w', Ext W w' → Ext w w' ∧ w'.cell? ⟨w.heap.size, 0, none⟩ = some (.bool s1) ∧ w'.cell? ⟨w.heap.size, 1, none⟩ = some (.slice A1 n1 c1) ∧ w'.cell? ⟨w.heap.size + 1, 0, none⟩ = some (.bool s2) ∧ w'.cell? ⟨w.heap.size + 1, 1, none⟩ = some (.slice A2 n2 c2)) := fun w' h => ⟨hE.trans h, (hB1.ext h).cell 0, (hB1.ext h).cell 1, (hB2.ext h).cell 0, (hB2.ext h).cell 1⟩
  have HK2 : Hid (∀ w' w'', w'.grownBy w'' (some (w.heap.size + 1 + 1)) → Ext W w' → Ext w w'' ∧ w''.cell? ⟨w.heap.size, 0, none⟩ = some (.bool s1) ∧ w''.cell? ⟨w.heap.size, 1, none⟩ = some (.slice A1 n1 c1) ∧ w''.cell? ⟨w.heap.size + 1, 0, none⟩ = some (.bool s2) ∧ w''.cell? ⟨w.heap.size + 1, 1, none⟩ = some (.slice A2 n2 c2)) := fun w' w'' hg h => ⟨(hE.trans h).grown hg (by intro k hk; injection hk with hk; omega), (hg.cell_far ⟨w.heap.size, 0, none⟩ (hB1.ext h).lt (by first | (simp; done) | (simp; omega))).trans ((hB1.ext h).cell 0), (hg.cell_far ⟨w.heap.size, 1, none⟩ (hB1.ext h).lt (by first | (simp; done) | (simp; omega))).trans ((hB1.ext h).cell 1), (hg.cell_far ⟨w.heap.size + 1, 0, none⟩ (hB2.ext h).lt (by first | (simp; done) | (simp; omega))).trans ((hB2.ext h).cell 0), (hg.cell_far ⟨w.heap.size + 1, 1, none⟩ (hB2.ext h).lt (by first | (simp; done) | (simp; omega))).trans ((hB2.ext h).cell 1)⟩
  refine (CS.out _ hE).mono ?_
  rintro e w0 ⟨rfl, he0⟩
  go_wp2_with fail
  go_region_held3 (fun w' => Ext w w' ∧ w'.cell? ⟨w.heap.size, 0, none⟩ = some (.bool s1) ∧ w'.cell? ⟨w.heap.size, 1, none⟩ = some (.slice A1 n1 c1) ∧ w'.cell? ⟨w.heap.size + 1, 0, none⟩ = some (.bool s2) ∧ w'.cell? ⟨w.heap.size + 1, 1, none⟩ = some (.slice A2 n2 c2))
    (first | (refine HK.out _ ?_; (repeat (first | with_reducible assumption | with_reducible exact Ext.refl _ | with_reducible refine Ext.drew ?_ | with_reducible refine Ext.drewN ?_ _ | with_reducible refine Ext.alloc ?_ _ | with_reducible refine Ext.set2 ?_ (by omega) _ _ | with_reducible refine Ext.setCell ?_ (by first | omega | (simp; done) | (simp; omega)) _ | with_reducible refine Ext.trans ?_ (by with_reducible assumption))); done) | exact HK2.out _ _ (by (repeat (first | apply grow_set | exact World.grownBy.refl _ _))) (by (repeat (first | with_reducible assumption | with_reducible exact Ext.refl _ | with_reducible refine Ext.drew ?_ | with_reducible refine Ext.drewN ?_ _ | with_reducible refine Ext.alloc ?_ _ | with_reducible refine Ext.set2 ?_ (by omega) _ _ | with_reducible refine Ext.setCell ?_ (by first | omega | (simp; done) | (simp; omega)) _ | with_reducible refine Ext.trans ?_ (by with_reducible assumption)))))
    (first | (go_at_call 40; (with_reducible refine (Of_any 1 _ (by omega) (by omega)).mono ?_); rintro e w2 ⟨t2, B2, m2, k2, rfl, hm2, he2⟩) | (go_at_call 89; (with_reducible refine (iMul_any _ _ _ _ x 1 _ (by omega) hl3 (H1.out.ext (by (repeat (first | with_reducible assumption | with_reducible exact Ext.refl _ | with_reducible refine Ext.drew ?_ | with_reducible refine Ext.drewN ?_ _ | with_reducible refine Ext.alloc ?_ _ | with_reducible refine Ext.set2 ?_ (by omega) _ _ | with_reducible refine Ext.setCell ?_ (by first | omega | (simp; done) | (simp; omega)) _ | with_reducible refine Ext.trans ?_ (by with_reducible assumption))))) hm2).mono ?_); rintro e w3 ⟨t3, B3, m3, k3, rfl, hm3, he3⟩) | (go_at_call 109; (with_reducible refine (iAbs_any _ _ _ _ hl2 (H2.out.ext (by (repeat (first | with_reducible assumption | with_reducible exact Ext.refl _ | with_reducible refine Ext.drew ?_ | with_reducible refine Ext.drewN ?_ _ | with_reducible refine Ext.alloc ?_ _ | with_reducible refine Ext.set2 ?_ (by omega) _ _ | with_reducible refine Ext.setCell ?_ (by first | omega | (simp; done) | (simp; omega)) _ | with_reducible refine Ext.trans ?_ (by with_reducible assumption)))))).mono ?_); rintro e w4 ⟨t4, B4, m4, k4, rfl, hm4, he4⟩; rw [Int.natAbs_natCast] at hm4) | (go_at_call 87; (with_reducible refine (reduced_any _ _ _ _ _ _ _ hl1 hd0 hd (hm3.ext (by (repeat (first | with_reducible assumption | with_reducible exact Ext.refl _ | with_reducible refine Ext.drew ?_ | with_reducible refine Ext.drewN ?_ _ | with_reducible refine Ext.alloc ?_ _ | with_reducible refine Ext.set2 ?_ (by omega) _ _ | with_reducible refine Ext.setCell ?_ (by first | omega | (simp; done) | (simp; omega)) _ | with_reducible refine Ext.trans ?_ (by with_reducible assumption))))) hm4).mono ?_); rintro e w6 ⟨s, A, n, c, s', A', n', c', rfl, hm6, he6⟩; have hq6 := (hB3.ext (show Ext W w6 by (repeat (first | with_reducible assumption | with_reducible exact Ext.refl _ | with_reducible refine Ext.drew ?_ | with_reducible refine Ext.drewN ?_ _ | with_reducible refine Ext.alloc ?_ _ | with_reducible refine Ext.set2 ?_ (by omega) _ _ | with_reducible refine Ext.setCell ?_ (by first | omega | (simp; done) | (simp; omega)) _ | with_reducible refine Ext.trans ?_ (by with_reducible assumption))))).four))
  go_wp2
  refine bodyPost_ret (v := .tuple #[.agg #[.bool s, .slice A n c, .bool s', .slice A' n' c'], .int .i64 0]) (by simp [results, Tryz.results76, go_sem, hq6]) rfl ?_
  have hEE : Ext W w6 := by (repeat (first | with_reducible assumption | with_reducible exact Ext.refl _ | with_reducible refine Ext.drew ?_ | with_reducible refine Ext.drewN ?_ _ | with_reducible refine Ext.alloc ?_ _ | with_reducible refine Ext.set2 ?_ (by omega) _ _ | with_reducible refine Ext.setCell ?_ (by first | omega | (simp; done) | (simp; omega)) _ | with_reducible refine Ext.trans ?_ (by with_reducible assumption)))
  rw [Int.mul_one] at hm6
  exact RRatE.close hE hEE hB3 (by omega) hm6.1 hm6.2

set_option maxRecDepth 100000 in
set_option maxHeartbeats 2000000 in
theorem fraction_any (z : Int) (d : Nat) (w : World) (h1 : -9223372036854775807 ≤ z) (h2 : z ≤ 9223372036854775807) (hd0 : 0 < d) (hd : d < 4294967296) :
    Calls Tryz.prog 38 #[.int .i64 z, .int .i64 (d : Int)] w (RRat w (mkRat z d)) := by
  have hlz : (wordsOf z.natAbs).length ≤ 100 := by have := wordsOf_len2 (m := z.natAbs) (by omega); omega
  go_enter Tryz.func38, Tryz.ntmps38
  go_wp2_with fail
  obtain ⟨W, hW⟩ : ∃ W : World, W = w.alloc (.cells #[.bool false, .slice none 0 0, .bool false, .slice none 0 0] 39) := ⟨_, rfl⟩
  rw [← hW]
  have hE : Ext w W := by rw [hW]; exact (Ext.refl w).alloc _
  have hB1 : Blk W (w.heap.size) 39 #[.bool false, .slice none 0 0, .bool false, .slice none 0 0] := by rw [hW]; exact Blk.newAt _ _ _ (by simp)
  clear hW
  refine (Of_any z _ h1 h2).mono ?_
  rintro e w1 ⟨s1, A1, n1, c1, rfl, hm1, he1⟩
  go_wp2_with fail
  refine (Of_any (d : Int) _ (by omega) (by omega)).mono ?_
  rintro e w2 ⟨s2, A2, n2, c2, rfl, hm2, he2⟩
  go_wp2_with fail
  refine (rNew_any _ _ _ _ z d _ hlz hd0 hd (hm1.ext he2) hm2).mono ?_
  rintro e w3 ⟨s, A, n, c, s', A', n', c', rfl, hq, he63⟩
  have he3 : Ext W w3 := (he1.trans he2).trans he63
  have hl3 := (hB1.ext he3).lt
  have hq3 := (hB1.ext he3).four
  go_upto_region 2 with fail
  obtain ⟨W2, hW2⟩ : ∃ W2 : World, W2 = w3.alloc (.cells #[.bool s, .slice A n c, .bool s', .slice A' n' c'] 39) := ⟨_, rfl⟩
  rw [← hW2]
  have k3 : Blk W2 w.heap.size 39 #[.bool false, .slice none 0 0, .bool false, .slice none 0 0] := by rw [hW2]; exact (hB1.ext he3).alloc _
  have k4 : Blk W2 w3.heap.size 39 #[.bool s, .slice A n c, .bool s', .slice A' n' c'] := by rw [hW2]; exact Blk.newAt _ _ _ rfl
  have k5 : Ext w W2 := by rw [hW2]; exact (hE.trans he3).alloc _
  have k6 : IsRat W2 (.bool s) (.slice A n c) (.bool s') (.slice A' n' c') (mkRat z d) := by rw [hW2]; exact ⟨hq.1.alloc _, hq.2.alloc _⟩
  clear hW2 hB1 hq hq3
  generalize w3.heap.size = G at *
  have q3 := k3.four
  have q4 := k4.four
  go_wp2
  refine bodyPost_ret (v := .agg #[.bool s, .slice A n c, .bool s', .slice A' n' c']) (by simp [results, Tryz.results38, go_sem, q3]) rfl ?_
  exact RRat.close k5 (Ext.refl _) k3 (by omega) k6.1 k6.2

end Go.Proofs.YtddgjlfniabehaaGreatDoor

/- Fractions: comparison. -/
namespace Go.Proofs.YtddgjlfniabehaaGreatDoor
open Go.RowKit
attribute [local go_sem ↓] Go.wp_at_zero Go.wp_at_succ

theorem rat_same (p q : Rat) : decide (p = q) = (decide (p.num = q.num) && decide ((p.den : Int) = (q.den : Int))) := by
  rw [← Bool.decide_and, decide_eq_decide]
  exact ⟨fun h => by rw [h]; exact ⟨rfl, rfl⟩, fun h => Rat.ext h.1 (by have := h.2; omega)⟩

set_option maxRecDepth 100000 in
set_option maxHeartbeats 2000000 in
theorem rSame1_any (b1 v1 b2 v2 b3 v3 b4 v4 : Value) (p q : Rat) (w : World) (hp : (wordsOf p.num.natAbs).length ≤ 1000000) (hq : (wordsOf q.num.natAbs).length ≤ 1000000) (hpd : (wordsOf p.den).length ≤ 1000000) (hqd : (wordsOf q.den).length ≤ 1000000)
    (h1 : IsRat w b1 v1 b2 v2 p) (h2 : IsRat w b3 v3 b4 v4 q) :
    Calls Tryz.prog 18 #[.agg #[b1, v1, b2, v2], .agg #[b3, v3, b4, v4]] w fun e w' => e = .returned (.bool (decide (p = q))) ∧ Ext w w' := by
  obtain ⟨s1, A1, n1, c1, s2, A2, n2, c2, rfl, rfl, rfl, rfl⟩ := h1.form
  obtain ⟨s3, A3, n3, c3, s4, A4, n4, c4, rfl, rfl, rfl, rfl⟩ := h2.form
  have cn := fun w' (h : Ext w w') => iSame1_any _ _ _ _ _ _ w' hp hq (h1.1.ext h) (h2.1.ext h)
  have cd := fun w' (h : Ext w w') => iSame1_any _ _ _ _ (p.den : Int) (q.den : Int) w' (by rwa [Int.natAbs_natCast]) (by rwa [Int.natAbs_natCast]) (h1.2.ext h) (h2.2.ext h)
  have HF := Lib.hid (rat_same p q)
  generalize decide (p.num = q.num) = t at *
  generalize decide ((p.den : Int) = (q.den : Int)) = u at *
  have C1 := Lib.hid cn
  have C2 := Lib.hid cd
  clear cn cd h1 h2
  cases t
  · go_enter Tryz.func18, Tryz.ntmps18
    go_wp2_with fail
    obtain ⟨W, hW⟩ : ∃ W : World, W = (w.alloc (.cells #[.bool s1, .slice A1 n1 c1, .bool s2, .slice A2 n2 c2] 39)).alloc (.cells #[.bool s3, .slice A3 n3 c3, .bool s4, .slice A4 n4 c4] 39) := ⟨_, rfl⟩
    rw [← hW]
    have hE : Ext w W := by rw [hW]; exact ((Ext.refl w).alloc _).alloc _
    have hB1 : Blk W (w.heap.size) 39 #[.bool s1, .slice A1 n1 c1, .bool s2, .slice A2 n2 c2] := by rw [hW]; exact (Blk.newAt _ _ _ (by simp)).alloc _
    have hB2 : Blk W (w.heap.size + 1) 39 #[.bool s3, .slice A3 n3 c3, .bool s4, .slice A4 n4 c4] := by rw [hW]; exact Blk.newAt _ _ _ (by simp)
    clear hW
    have HK : Hid (∀ w', Ext W w' → Ext w w' ∧ w'.cell? ⟨w.heap.size, 0, none⟩ = some (.bool s1) ∧ w'.cell? ⟨w.heap.size, 1, none⟩ = some (.slice A1 n1 c1) ∧ w'.cell? ⟨w.heap.size, 2, none⟩ = some (.bool s2) ∧ w'.cell? ⟨w.heap.size, 3, none⟩ = some (.slice A2 n2 c2) ∧ w'.cell? ⟨w.heap.size + 1, 0, none⟩ = some (.bool s3) ∧ w'.cell? ⟨w.heap.size + 1, 1, none⟩ = some (.slice A3 n3 c3) ∧ w'.cell? ⟨w.heap.size + 1, 2, none⟩ = some (.bool s4) ∧ w'.cell? ⟨w.heap.size + 1, 3, none⟩ = some (.slice A4 n4 c4)) := fun w' h => ⟨hE.trans h, (hB1.ext h).cell 0, (hB1.ext h).cell 1, (hB1.ext h).cell 2, (hB1.ext h).cell 3, (hB2.ext h).cell 0, (hB2.ext h).cell 1, (hB2.ext h).cell 2, (hB2.ext h).cell 3⟩
    refine (C1.out _ hE).mono ?_
    rintro e w2 ⟨rfl, he2⟩
    go_wp2
    go_ret
    exact ⟨by rw [HF.out]; rfl, hE.trans he2⟩
  · go_enter Tryz.func18, Tryz.ntmps18
    go_wp2_with fail
    obtain ⟨W, hW⟩ : ∃ W : World, W = (w.alloc (.cells #[.bool s1, .slice A1 n1 c1, .bool s2, .slice A2 n2 c2] 39)).alloc (.cells #[.bool s3, .slice A3 n3 c3, .bool s4, .slice A4 n4 c4] 39) := ⟨_, rfl⟩
    rw [← hW]
    have hE : Ext w W := by rw [hW]; exact ((Ext.refl w).alloc _).alloc _
    have hB1 : Blk W (w.heap.size) 39 #[.bool s1, .slice A1 n1 c1, .bool s2, .slice A2 n2 c2] := by rw [hW]; exact (Blk.newAt _ _ _ (by simp)).alloc _
    have hB2 : Blk W (w.heap.size + 1) 39 #[.bool s3, .slice A3 n3 c3, .bool s4, .slice A4 n4 c4] := by rw [hW]; exact Blk.newAt _ _ _ (by simp)
    clear hW
    have HK : Hid (∀ w', Ext W w' → Ext w w' ∧ w'.cell? ⟨w.heap.size, 0, none⟩ = some (.bool s1) ∧ w'.cell? ⟨w.heap.size, 1, none⟩ = some (.slice A1 n1 c1) ∧ w'.cell? ⟨w.heap.size, 2, none⟩ = some (.bool s2) ∧ w'.cell? ⟨w.heap.size, 3, none⟩ = some (.slice A2 n2 c2) ∧ w'.cell? ⟨w.heap.size + 1, 0, none⟩ = some (.bool s3) ∧ w'.cell? ⟨w.heap.size + 1, 1, none⟩ = some (.slice A3 n3 c3) ∧ w'.cell? ⟨w.heap.size + 1, 2, none⟩ = some (.bool s4) ∧ w'.cell? ⟨w.heap.size + 1, 3, none⟩ = some (.slice A4 n4 c4)) := fun w' h => ⟨hE.trans h, (hB1.ext h).cell 0, (hB1.ext h).cell 1, (hB1.ext h).cell 2, (hB1.ext h).cell 3, (hB2.ext h).cell 0, (hB2.ext h).cell 1, (hB2.ext h).cell 2, (hB2.ext h).cell 3⟩
    refine (C1.out _ hE).mono ?_
    rintro e w2 ⟨rfl, he2⟩
    have p2 := HK.out w2 he2
    go_wp2_with fail
    clear p2
    refine (C2.out _ (hE.trans he2)).mono ?_
    rintro e w3 ⟨rfl, he3⟩
    go_wp2
    go_ret
    exact ⟨by rw [HF.out]; rfl, (hE.trans he2).trans he3⟩

theorem cross_eq (p q : Rat) : (icmp (p.num * q.den) (q.num * p.den) == 0) = decide (p = q) := by
  have h : p = q ↔ p.num * q.den = q.num * p.den := by
    constructor
    · rintro rfl; rfl
    · intro h
      have h1 := Rat.mkRat_self p
      have h2 := Rat.mkRat_self q
      rw [← h1, ← h2]
      exact (Rat.mkRat_eq_iff p.den_nz q.den_nz).2 h
  by_cases h2 : p.num * q.den = q.num * p.den
  · rw [icmp_eq h2]; simp [h.2 h2]
  · rw [decide_eq_false (fun h3 => h2 (h.1 h3))]
    rcases Int.lt_or_gt_of_ne h2 with h3 | h3
    · rw [icmp_lt h3]; rfl
    · rw [icmp_gt h3]; rfl

set_option maxRecDepth 100000 in
set_option maxHeartbeats 2000000 in
theorem rCmp_any (b1 v1 b2 v2 b3 v3 b4 v4 : Value) (p q : Rat) (w : World) (hx : p.num.natAbs ≤ 18446744073709551615) (hy : q.num.natAbs ≤ 18446744073709551615) (hd1 : p.den < 4294967296) (hd2 : q.den < 4294967296)
    (h1 : IsRat w b1 v1 b2 v2 p) (h2 : IsRat w b3 v3 b4 v4 q) :
    Calls Tryz.prog 51 #[.agg #[b1, v1, b2, v2], .agg #[b3, v3, b4, v4]] w fun e w' => e = .returned (.int .i64 (icmp (p.num * q.den) (q.num * p.den))) ∧ Ext w w' := by
  obtain ⟨s1, A1, n1, c1, s2, A2, n2, c2, rfl, rfl, rfl, rfl⟩ := h1.form
  obtain ⟨s3, A3, n3, c3, s4, A4, n4, c4, rfl, rfl, rfl, rfl⟩ := h2.form
  have P1 := Lib.hid h1.1
  have P2 := Lib.hid h1.2
  have Q1 := Lib.hid h2.1
  have Q2 := Lib.hid h2.2
  clear h1 h2
  generalize p.num = x at *
  generalize q.num = y at *
  generalize p.den = d at *
  generalize q.den = f at *
  have lx : (wordsOf x.natAbs).length ≤ 2 := wordsOf_len2 (by omega)
  have ly : (wordsOf y.natAbs).length ≤ 2 := wordsOf_len2 (by omega)
  have ld : (wordsOf ((d : Nat) : Int).natAbs).length ≤ 2 := wordsOf_len2 (by omega)
  have lf : (wordsOf ((f : Nat) : Int).natAbs).length ≤ 2 := wordsOf_len2 (by omega)
  have l1 : (wordsOf (x * f).natAbs).length ≤ 4 := by rw [Int.natAbs_mul]; have := wordsOf_len_mul x.natAbs ((f : Nat) : Int).natAbs; omega
  have l2 : (wordsOf (y * d).natAbs).length ≤ 4 := by rw [Int.natAbs_mul]; have := wordsOf_len_mul y.natAbs ((d : Nat) : Int).natAbs; omega
  go_enter Tryz.func51, Tryz.ntmps51
  go_wp2_with fail
  obtain ⟨W, hW⟩ : ∃ W : World, W = (w.alloc (.cells #[.bool s1, .slice A1 n1 c1, .bool s2, .slice A2 n2 c2] 39)).alloc (.cells #[.bool s3, .slice A3 n3 c3, .bool s4, .slice A4 n4 c4] 39) := ⟨_, rfl⟩
  rw [← hW]
  have hE : Ext w W := by rw [hW]; exact ((Ext.refl w).alloc _).alloc _
  have hB1 : Blk W (w.heap.size) 39 #[.bool s1, .slice A1 n1 c1, .bool s2, .slice A2 n2 c2] := by rw [hW]; exact (Blk.newAt _ _ _ (by simp)).alloc _
  have hB2 : Blk W (w.heap.size + 1) 39 #[.bool s3, .slice A3 n3 c3, .bool s4, .slice A4 n4 c4] := by rw [hW]; exact Blk.newAt _ _ _ (by simp)
  clear hW
  have HK : Hid (∀ w', Ext W w' → Ext w w' ∧ w'.cell? ⟨w.heap.size, 0, none⟩ = some (.bool s1) ∧ w'.cell? ⟨w.heap.size, 1, none⟩ = some (.slice A1 n1 c1) ∧ w'.cell? ⟨w.heap.size, 2, none⟩ = some (.bool s2) ∧ w'.cell? ⟨w.heap.size, 3, none⟩ = some (.slice A2 n2 c2) ∧ w'.cell? ⟨w.heap.size + 1, 0, none⟩ = some (.bool s3) ∧ w'.cell? ⟨w.heap.size + 1, 1, none⟩ = some (.slice A3 n3 c3) ∧ w'.cell? ⟨w.heap.size + 1, 2, none⟩ = some (.bool s4) ∧ w'.cell? ⟨w.heap.size + 1, 3, none⟩ = some (.slice A4 n4 c4)) := fun w' h => ⟨hE.trans h, (hB1.ext h).cell 0, (hB1.ext h).cell 1, (hB1.ext h).cell 2, (hB1.ext h).cell 3, (hB2.ext h).cell 0, (hB2.ext h).cell 1, (hB2.ext h).cell 2, (hB2.ext h).cell 3⟩
  go_region_held3 (fun w' => Ext w w' ∧ w'.cell? ⟨w.heap.size, 0, none⟩ = some (.bool s1) ∧ w'.cell? ⟨w.heap.size, 1, none⟩ = some (.slice A1 n1 c1) ∧ w'.cell? ⟨w.heap.size, 2, none⟩ = some (.bool s2) ∧ w'.cell? ⟨w.heap.size, 3, none⟩ = some (.slice A2 n2 c2) ∧ w'.cell? ⟨w.heap.size + 1, 0, none⟩ = some (.bool s3) ∧ w'.cell? ⟨w.heap.size + 1, 1, none⟩ = some (.slice A3 n3 c3) ∧ w'.cell? ⟨w.heap.size + 1, 2, none⟩ = some (.bool s4) ∧ w'.cell? ⟨w.heap.size + 1, 3, none⟩ = some (.slice A4 n4 c4))
    (first | (refine HK.out _ ?_; (repeat (first | with_reducible assumption | with_reducible exact Ext.refl _ | with_reducible refine Ext.drew ?_ | with_reducible refine Ext.drewN ?_ _ | with_reducible refine Ext.alloc ?_ _ | with_reducible refine Ext.set2 ?_ (by omega) _ _ | with_reducible refine Ext.setCell ?_ (by first | omega | (simp; done) | (simp; omega)) _ | with_reducible refine Ext.trans ?_ (by with_reducible assumption))); done))
    (first | (go_at_call 89; (with_reducible refine (iMul_any _ _ _ _ x f _ (by omega) (by omega) (P1.out.ext (by (repeat (first | with_reducible assumption | with_reducible exact Ext.refl _ | with_reducible refine Ext.drew ?_ | with_reducible refine Ext.drewN ?_ _ | with_reducible refine Ext.alloc ?_ _ | with_reducible refine Ext.set2 ?_ (by omega) _ _ | with_reducible refine Ext.setCell ?_ (by first | omega | (simp; done) | (simp; omega)) _ | with_reducible refine Ext.trans ?_ (by with_reducible assumption))))) (Q2.out.ext (by (repeat (first | with_reducible assumption | with_reducible exact Ext.refl _ | with_reducible refine Ext.drew ?_ | with_reducible refine Ext.drewN ?_ _ | with_reducible refine Ext.alloc ?_ _ | with_reducible refine Ext.set2 ?_ (by omega) _ _ | with_reducible refine Ext.setCell ?_ (by first | omega | (simp; done) | (simp; omega)) _ | with_reducible refine Ext.trans ?_ (by with_reducible assumption)))))).mono ?_); rintro e w2 ⟨t2, B2, m2, k2, rfl, hm2, he2⟩) | (go_at_call 89; (with_reducible refine (iMul_any _ _ _ _ y d _ (by omega) (by omega) (Q1.out.ext (by (repeat (first | with_reducible assumption | with_reducible exact Ext.refl _ | with_reducible refine Ext.drew ?_ | with_reducible refine Ext.drewN ?_ _ | with_reducible refine Ext.alloc ?_ _ | with_reducible refine Ext.set2 ?_ (by omega) _ _ | with_reducible refine Ext.setCell ?_ (by first | omega | (simp; done) | (simp; omega)) _ | with_reducible refine Ext.trans ?_ (by with_reducible assumption))))) (P2.out.ext (by (repeat (first | with_reducible assumption | with_reducible exact Ext.refl _ | with_reducible refine Ext.drew ?_ | with_reducible refine Ext.drewN ?_ _ | with_reducible refine Ext.alloc ?_ _ | with_reducible refine Ext.set2 ?_ (by omega) _ _ | with_reducible refine Ext.setCell ?_ (by first | omega | (simp; done) | (simp; omega)) _ | with_reducible refine Ext.trans ?_ (by with_reducible assumption)))))).mono ?_); rintro e w3 ⟨t3, B3, m3, k3, rfl, hm3, he3⟩) | (go_at_call 94; (with_reducible refine (iCmp_any _ _ _ _ _ _ _ (by omega) (by omega) (hm2.ext (by (repeat (first | with_reducible assumption | with_reducible exact Ext.refl _ | with_reducible refine Ext.drew ?_ | with_reducible refine Ext.drewN ?_ _ | with_reducible refine Ext.alloc ?_ _ | with_reducible refine Ext.set2 ?_ (by omega) _ _ | with_reducible refine Ext.setCell ?_ (by first | omega | (simp; done) | (simp; omega)) _ | with_reducible refine Ext.trans ?_ (by with_reducible assumption))))) hm3).mono ?_); rintro e w4 ⟨rfl, he4⟩))
  go_wp2
  go_ret
  exact ⟨rfl, hE.trans (by (repeat (first | with_reducible assumption | with_reducible exact Ext.refl _ | with_reducible refine Ext.drew ?_ | with_reducible refine Ext.drewN ?_ _ | with_reducible refine Ext.alloc ?_ _ | with_reducible refine Ext.set2 ?_ (by omega) _ _ | with_reducible refine Ext.setCell ?_ (by first | omega | (simp; done) | (simp; omega)) _ | with_reducible refine Ext.trans ?_ (by with_reducible assumption))))⟩

end Go.Proofs.YtddgjlfniabehaaGreatDoor

/- The reference's integers as numbers. -/
namespace Go.Proofs.YtddgjlfniabehaaGreatDoor
open Go.RowKit
attribute [local go_sem ↓] Go.wp_at_zero Go.wp_at_succ

set_option maxRecDepth 100000 in
set_option maxHeartbeats 2000000 in
theorem Low1_neg (b1 v1 : Value) (z : Int) (w : World) (hz : z.natAbs ≤ 9223372036854775807) (hc : z < 0) (h1 : IsInt w b1 v1 z) :
    Calls Tryz.prog 24 #[.agg #[b1, v1]] w fun e w' => e = .returned (.tuple #[.int .i64 z, .bool true]) ∧ Ext w w' := by
  obtain ⟨s, A, n, c, rfl, rfl, es, en, hN⟩ := h1.form
  have hln : (wordsOf z.natAbs).length ≤ 2 := wordsOf_len2 (by omega)
  have hn2 : n ≤ 2 := by omega
  have hs0 : s = true := by rw [es]; simp; omega
  have e1 := two_words (wordsOf z.natAbs) hln
  rw [nv_wordsOf] at e1
  have g1 := cast_get (wordsOf_w32 z.natAbs) 0
  have g2 := cast_get (wordsOf_w32 z.natAbs) 1
  have c1 : ∀ w', Ext w w' → Calls Tryz.prog 54 #[.slice A n c, .int .i64 0] w' fun e w'' => e = .returned (.int .u64 (((wordsOf z.natAbs)[0]?.getD 0 : Nat) : Int)) ∧ w' = w'' := fun w' h => by
    rw [en]; exact word_any _ _ 0 w' (wordsOf_w32 _) (by omega) (by rw [← en]; exact hN.ext h)
  have c2 : ∀ w', Ext w w' → Calls Tryz.prog 54 #[.slice A n c, .int .i64 1] w' fun e w'' => e = .returned (.int .u64 (((wordsOf z.natAbs)[1]?.getD 0 : Nat) : Int)) ∧ w' = w'' := fun w' h => by
    rw [en]; exact word_any _ _ 1 w' (wordsOf_w32 _) (by omega) (by rw [← en]; exact hN.ext h)
  generalize (wordsOf z.natAbs)[0]?.getD 0 = x0 at *
  generalize (wordsOf z.natAbs)[1]?.getD 0 = x1 at *
  have o1 := halves_or2 (x0 : Int) (x1 : Int) (by omega) (by omega) (by omega) (by omega)
  have hV : (x1 : Int) * 4294967296 + (x0 : Int) = (z.natAbs : Int) := by omega
  rw [hV] at o1
  obtain ⟨a0, ha0⟩ : ∃ a0 : Int, a0 = (x0 : Int) := ⟨_, rfl⟩
  obtain ⟨a1, ha1⟩ : ∃ a1 : Int, a1 = (x1 : Int) := ⟨_, rfl⟩
  obtain ⟨V, hVV⟩ : ∃ V : Int, V = (z.natAbs : Int) := ⟨_, rfl⟩
  rw [← ha0] at c1 g1 o1
  rw [← ha1] at c2 g2 o1
  rw [← hVV] at o1
  have hz2 : V = -z := by omega
  have b0 : 0 ≤ V := by omega
  have b1 : V ≤ 9223372036854775807 := by omega
  have C1 := Lib.hid c1
  have C2 := Lib.hid c2
  have HZ := Lib.hid hz2
  clear c1 c2 e1 hV ha0 ha1 hVV hz2 h1 hN es en hln hc hz
  subst hs0
  have hV1 : ¬ (9223372036854775808 : Int) < V := by omega
  have hV2 : (V == (9223372036854775808 : Int)) = false := by rw [beq_eq_false_iff_ne]; omega
  have hV3 : ¬ (2 : Int) < (n : Int) := by omega
  go_enter Tryz.func24, Tryz.ntmps24
  go_wp2_with fail
  obtain ⟨W, hW⟩ : ∃ W : World, W = w.alloc (.cells #[.bool true, .slice A n c] 37) := ⟨_, rfl⟩
  rw [← hW]
  have hE : Ext w W := by rw [hW]; exact (Ext.refl w).alloc _
  have hB1 : Blk W (w.heap.size) 37 #[.bool true, .slice A n c] := by rw [hW]; exact Blk.newAt _ _ _ (by simp)
  clear hW
  have HK : Hid (∀ w', Ext W w' → Ext w w' ∧ w'.cell? ⟨w.heap.size, 0, none⟩ = some (.bool true) ∧ w'.cell? ⟨w.heap.size, 1, none⟩ = some (.slice A n c)) := fun w' h => ⟨hE.trans h, (hB1.ext h).cell 0, (hB1.ext h).cell 1⟩
  go_region_held3 (fun w' => Ext w w' ∧ w'.cell? ⟨w.heap.size, 0, none⟩ = some (.bool true) ∧ w'.cell? ⟨w.heap.size, 1, none⟩ = some (.slice A n c))
    (first | (refine HK.out _ ?_; (repeat (first | with_reducible assumption | with_reducible exact Ext.refl _ | with_reducible refine Ext.drew ?_ | with_reducible refine Ext.drewN ?_ _ | with_reducible refine Ext.alloc ?_ _ | with_reducible refine Ext.set2 ?_ (by omega) _ _ | with_reducible refine Ext.setCell ?_ (by first | omega | (simp; done) | (simp; omega)) _ | with_reducible refine Ext.trans ?_ (by with_reducible assumption))); done))
    (first | (go_at_call 54; (with_reducible refine (C1.out _ (by (repeat (first | with_reducible assumption | with_reducible exact Ext.refl _ | with_reducible refine Ext.drew ?_ | with_reducible refine Ext.drewN ?_ _ | with_reducible refine Ext.alloc ?_ _ | with_reducible refine Ext.set2 ?_ (by omega) _ _ | with_reducible refine Ext.setCell ?_ (by first | omega | (simp; done) | (simp; omega)) _ | with_reducible refine Ext.trans ?_ (by with_reducible assumption))))).mono ?_); rintro e w2 ⟨rfl, he2⟩; subst he2) | (go_at_call 54; (with_reducible refine (C2.out _ (by (repeat (first | with_reducible assumption | with_reducible exact Ext.refl _ | with_reducible refine Ext.drew ?_ | with_reducible refine Ext.drewN ?_ _ | with_reducible refine Ext.alloc ?_ _ | with_reducible refine Ext.set2 ?_ (by omega) _ _ | with_reducible refine Ext.setCell ?_ (by first | omega | (simp; done) | (simp; omega)) _ | with_reducible refine Ext.trans ?_ (by with_reducible assumption))))).mono ?_); rintro e w2 ⟨rfl, he2⟩; subst he2))
  have q1 := HK.out W (Ext.refl W)
  go_wp2
  go_ret2
  refine ⟨?_, hE.trans (by (repeat (first | with_reducible assumption | with_reducible exact Ext.refl _ | with_reducible refine Ext.drew ?_ | with_reducible refine Ext.drewN ?_ _ | with_reducible refine Ext.alloc ?_ _ | with_reducible refine Ext.set2 ?_ (by omega) _ _ | with_reducible refine Ext.setCell ?_ (by first | omega | (simp; done) | (simp; omega)) _ | with_reducible refine Ext.trans ?_ (by with_reducible assumption))))⟩
  show Ending.returned (.tuple #[.int .i64 (-V), .bool true]) = _
  rw [HZ.out, Int.neg_neg]
set_option maxRecDepth 100000 in
set_option maxHeartbeats 2000000 in
theorem Low1_pos (b1 v1 : Value) (z : Int) (w : World) (hz : z.natAbs ≤ 9223372036854775807) (hc : ¬ z < 0) (h1 : IsInt w b1 v1 z) :
    Calls Tryz.prog 24 #[.agg #[b1, v1]] w fun e w' => e = .returned (.tuple #[.int .i64 z, .bool true]) ∧ Ext w w' := by
  obtain ⟨s, A, n, c, rfl, rfl, es, en, hN⟩ := h1.form
  have hln : (wordsOf z.natAbs).length ≤ 2 := wordsOf_len2 (by omega)
  have hn2 : n ≤ 2 := by omega
  have hs0 : s = false := by rw [es]; simp; omega
  have e1 := two_words (wordsOf z.natAbs) hln
  rw [nv_wordsOf] at e1
  have g1 := cast_get (wordsOf_w32 z.natAbs) 0
  have g2 := cast_get (wordsOf_w32 z.natAbs) 1
  have c1 : ∀ w', Ext w w' → Calls Tryz.prog 54 #[.slice A n c, .int .i64 0] w' fun e w'' => e = .returned (.int .u64 (((wordsOf z.natAbs)[0]?.getD 0 : Nat) : Int)) ∧ w' = w'' := fun w' h => by
    rw [en]; exact word_any _ _ 0 w' (wordsOf_w32 _) (by omega) (by rw [← en]; exact hN.ext h)
  have c2 : ∀ w', Ext w w' → Calls Tryz.prog 54 #[.slice A n c, .int .i64 1] w' fun e w'' => e = .returned (.int .u64 (((wordsOf z.natAbs)[1]?.getD 0 : Nat) : Int)) ∧ w' = w'' := fun w' h => by
    rw [en]; exact word_any _ _ 1 w' (wordsOf_w32 _) (by omega) (by rw [← en]; exact hN.ext h)
  generalize (wordsOf z.natAbs)[0]?.getD 0 = x0 at *
  generalize (wordsOf z.natAbs)[1]?.getD 0 = x1 at *
  have o1 := halves_or2 (x0 : Int) (x1 : Int) (by omega) (by omega) (by omega) (by omega)
  have hV : (x1 : Int) * 4294967296 + (x0 : Int) = (z.natAbs : Int) := by omega
  rw [hV] at o1
  obtain ⟨a0, ha0⟩ : ∃ a0 : Int, a0 = (x0 : Int) := ⟨_, rfl⟩
  obtain ⟨a1, ha1⟩ : ∃ a1 : Int, a1 = (x1 : Int) := ⟨_, rfl⟩
  obtain ⟨V, hVV⟩ : ∃ V : Int, V = (z.natAbs : Int) := ⟨_, rfl⟩
  rw [← ha0] at c1 g1 o1
  rw [← ha1] at c2 g2 o1
  rw [← hVV] at o1
  have hz2 : V = z := by omega
  have b0 : 0 ≤ V := by omega
  have b1 : V ≤ 9223372036854775807 := by omega
  have C1 := Lib.hid c1
  have C2 := Lib.hid c2
  have HZ := Lib.hid hz2
  clear c1 c2 e1 hV ha0 ha1 hVV hz2 h1 hN es en hln hc hz
  subst hs0
  have hV1 : ¬ (9223372036854775808 : Int) < V := by omega
  have hV2 : (V == (9223372036854775808 : Int)) = false := by rw [beq_eq_false_iff_ne]; omega
  have hV3 : ¬ (2 : Int) < (n : Int) := by omega
  go_enter Tryz.func24, Tryz.ntmps24
  go_wp2_with fail
  obtain ⟨W, hW⟩ : ∃ W : World, W = w.alloc (.cells #[.bool false, .slice A n c] 37) := ⟨_, rfl⟩
  rw [← hW]
  have hE : Ext w W := by rw [hW]; exact (Ext.refl w).alloc _
  have hB1 : Blk W (w.heap.size) 37 #[.bool false, .slice A n c] := by rw [hW]; exact Blk.newAt _ _ _ (by simp)
  clear hW
  have HK : Hid (∀ w', Ext W w' → Ext w w' ∧ w'.cell? ⟨w.heap.size, 0, none⟩ = some (.bool false) ∧ w'.cell? ⟨w.heap.size, 1, none⟩ = some (.slice A n c)) := fun w' h => ⟨hE.trans h, (hB1.ext h).cell 0, (hB1.ext h).cell 1⟩
  go_region_held3 (fun w' => Ext w w' ∧ w'.cell? ⟨w.heap.size, 0, none⟩ = some (.bool false) ∧ w'.cell? ⟨w.heap.size, 1, none⟩ = some (.slice A n c))
    (first | (refine HK.out _ ?_; (repeat (first | with_reducible assumption | with_reducible exact Ext.refl _ | with_reducible refine Ext.drew ?_ | with_reducible refine Ext.drewN ?_ _ | with_reducible refine Ext.alloc ?_ _ | with_reducible refine Ext.set2 ?_ (by omega) _ _ | with_reducible refine Ext.setCell ?_ (by first | omega | (simp; done) | (simp; omega)) _ | with_reducible refine Ext.trans ?_ (by with_reducible assumption))); done))
    (first | (go_at_call 54; (with_reducible refine (C1.out _ (by (repeat (first | with_reducible assumption | with_reducible exact Ext.refl _ | with_reducible refine Ext.drew ?_ | with_reducible refine Ext.drewN ?_ _ | with_reducible refine Ext.alloc ?_ _ | with_reducible refine Ext.set2 ?_ (by omega) _ _ | with_reducible refine Ext.setCell ?_ (by first | omega | (simp; done) | (simp; omega)) _ | with_reducible refine Ext.trans ?_ (by with_reducible assumption))))).mono ?_); rintro e w2 ⟨rfl, he2⟩; subst he2) | (go_at_call 54; (with_reducible refine (C2.out _ (by (repeat (first | with_reducible assumption | with_reducible exact Ext.refl _ | with_reducible refine Ext.drew ?_ | with_reducible refine Ext.drewN ?_ _ | with_reducible refine Ext.alloc ?_ _ | with_reducible refine Ext.set2 ?_ (by omega) _ _ | with_reducible refine Ext.setCell ?_ (by first | omega | (simp; done) | (simp; omega)) _ | with_reducible refine Ext.trans ?_ (by with_reducible assumption))))).mono ?_); rintro e w2 ⟨rfl, he2⟩; subst he2))
  have q1 := HK.out W (Ext.refl W)
  go_wp2
  go_ret2
  refine ⟨?_, hE.trans (by (repeat (first | with_reducible assumption | with_reducible exact Ext.refl _ | with_reducible refine Ext.drew ?_ | with_reducible refine Ext.drewN ?_ _ | with_reducible refine Ext.alloc ?_ _ | with_reducible refine Ext.set2 ?_ (by omega) _ _ | with_reducible refine Ext.setCell ?_ (by first | omega | (simp; done) | (simp; omega)) _ | with_reducible refine Ext.trans ?_ (by with_reducible assumption))))⟩
  show Ending.returned (.tuple #[.int .i64 V, .bool true]) = _
  rw [HZ.out]

theorem Low1_any (b1 v1 : Value) (z : Int) (w : World) (hz : z.natAbs ≤ 9223372036854775807) (h1 : IsInt w b1 v1 z) :
    Calls Tryz.prog 24 #[.agg #[b1, v1]] w fun e w' => e = .returned (.tuple #[.int .i64 z, .bool true]) ∧ Ext w w' := by
  by_cases h : z < 0
  · exact Low1_neg _ _ _ _ hz h h1
  · exact Low1_pos _ _ _ _ hz h h1

end Go.Proofs.YtddgjlfniabehaaGreatDoor

/- The reference's integers: number of binary digits (one word). -/
namespace Go.Proofs.YtddgjlfniabehaaGreatDoor
open Go.RowKit
attribute [local go_sem ↓] Go.wp_at_zero Go.wp_at_succ

/-- Number of binary digits. -/
def blen (m : Nat) : Nat := if h : m = 0 then 0 else blen (m / 2) + 1
termination_by m
decreasing_by omega
theorem blen_zero : blen 0 = 0 := by rw [blen]; simp
theorem blen_pos {m : Nat} (h : 0 < m) : blen m = blen (m / 2) + 1 := by rw [blen]; simp [show m ≠ 0 by omega]
theorem blen_lt (m : Nat) : m < 2 ^ blen m := by
  induction m using Nat.strongRecOn with
  | _ m ih =>
    by_cases h : m = 0
    · subst h; rw [blen_zero]; decide
    · rw [blen_pos (by omega), Nat.pow_succ]
      have := ih (m / 2) (by omega)
      omega
theorem blen_le (m k : Nat) (h : m < 2 ^ k) : blen m ≤ k := by
  induction k generalizing m with
  | zero => have : m = 0 := by simpa using h
            subst this; rw [blen_zero]; omega
  | succ k ih =>
    by_cases h0 : m = 0
    · subst h0; rw [blen_zero]; omega
    · rw [blen_pos (by omega)]
      rw [Nat.pow_succ] at h
      have := ih (m / 2) (by omega)
      omega

set_option maxRecDepth 100000 in
set_option maxHeartbeats 2000000 in
theorem Bits1_any (b1 v1 : Value) (z : Int) (w : World) (h0 : z ≠ 0) (hz : z.natAbs < 4294967296) (h1 : IsInt w b1 v1 z) :
    Calls Tryz.prog 56 #[.agg #[b1, v1]] w fun e w' => e = .returned (.int .i64 (blen z.natAbs : Int)) ∧ Ext w w' := by
  obtain ⟨s, A, n, c, rfl, rfl, es, en, hN⟩ := h1.form
  have hw := wordsOf_one (m := z.natAbs) (by omega) hz
  unfold IsNat at hN
  rw [hw] at hN en
  obtain rfl : n = 1 := en
  obtain ⟨bb, bo, hB, hc⟩ := hN.word (Ext.refl w) 0 (by simp)
  obtain rfl : A = some ⟨bb, bo, none⟩ := hB
  have hcl : ∀ w', Ext w w' → w'.cell? ⟨bb, bo, none⟩ = some (.int .u32 (z.natAbs : Int)) := fun w' h => by
    obtain ⟨bb', bo', e1, h2⟩ := hN.word h 0 (by simp)
    cases e1
    simpa using h2
  have HC := Lib.hid hcl
  have hb := blen_le z.natAbs 32 (by simpa using hz)
  have hm0 : 0 < z.natAbs := by omega
  generalize z.natAbs = m at *
  clear h1 hN hc hw es hcl h0
  go_enter Tryz.func56, Tryz.ntmps56
  obtain ⟨W', hW'⟩ : ∃ W' : World, W' = w.alloc (.cells #[.bool s, .slice (some ⟨bb, bo, none⟩) 1 c] 37) := ⟨_, rfl⟩
  have hcx := HC.out W' (by rw [hW']; exact (Ext.refl w).alloc _)
  have hlt : bb < w.heap.size := by
    rcases Nat.lt_or_ge bb w.heap.size with h | h
    · exact h
    · have := HC.out w (Ext.refl w)
      simp [World.cell?, Array.getElem?_eq_none h] at this
  have hcw := HC.out w (Ext.refl w)
  go_wp2_with fail
  obtain ⟨W, hW⟩ : ∃ W : World, W = w.alloc (.cells #[.bool s, .slice (some ⟨bb, bo, none⟩) 1 c] 37) := ⟨_, rfl⟩
  rw [← hW]
  have hE : Ext w W := by rw [hW]; exact (Ext.refl w).alloc _
  have hB1 : Blk W (w.heap.size) 37 #[.bool s, .slice (some ⟨bb, bo, none⟩) 1 c] := by rw [hW]; exact Blk.newAt _ _ _ (by simp)
  clear hW
  have HK : Hid (∀ w', Ext W w' → Ext w w' ∧ w'.cell? ⟨w.heap.size, 0, none⟩ = some (.bool s) ∧ w'.cell? ⟨w.heap.size, 1, none⟩ = some (.slice (some ⟨bb, bo, none⟩) 1 c)) := fun w' h => ⟨hE.trans h, (hB1.ext h).cell 0, (hB1.ext h).cell 1⟩
  go_loopw [3, 4] (fun t x wr => ∃ (k y : Nat), t = .int .i64 (k : Int) ∧ x = .int .u32 (y : Int) ∧ y ≤ m ∧ Hid (k + blen y = blen m) ∧ k ≤ 32 ∧ wr = W) (fun _ x _ => (intOf x).toNat)
  case atStart => exact ⟨0, m, rfl, rfl, Nat.le_refl _, (by show _ = _; omega), by omega, rfl⟩
  case round =>
    obtain ⟨k, y, rfl, rfl, hy, hk, hk32, rfl⟩ := hrel
    by_cases h : 0 < y
    · have hy0 : (0 : Int) < (y : Int) := by omega
      have hk2 := hk.out
      rw [blen_pos h] at hk2
      have HK3 := Lib.hid hk2
      clear hk hk2
      go_wp2
      go_roundw
      case rel => exact ⟨k + 1, y / 2, by go_num, by first | (congr 1; done) | (congr 1; omega), by omega, (by show _ = _; have := HK3.out; omega), by have := HK3.out; omega, by trivial⟩
      case measure => (simp [intOf] <;> omega)
    · obtain rfl : y = 0 := by omega
      go_wp2
      go_ret
      have hk2 := hk.out
      rw [blen_zero] at hk2
      exact ⟨ret_int (by omega), hE⟩

end Go.Proofs.YtddgjlfniabehaaGreatDoor

/- The reference's powers of 2 (of a small exponent). -/
namespace Go.Proofs.YtddgjlfniabehaaGreatDoor
open Go.RowKit
attribute [local go_sem ↓] Go.wp_at_zero Go.wp_at_succ

set_option maxHeartbeats 400000 in
theorem word_neg (A : Option Addr) (n c : Nat) (w : World) : Calls Tryz.prog 54 #[.slice A n c, .int .i64 (-1)] w fun e w' => e = .returned (.int .u64 0) ∧ w = w' := by
  go_enter Tryz.func54, Tryz.ntmps54
  go_wp2
  go_ret
  exact ⟨rfl, rfl⟩

set_option maxRecDepth 100000 in
set_option maxHeartbeats 1000000 in
theorem left1_1 (v : Value) (w : World) (h1 : Words w v [1]) :
    Calls Tryz.prog 55 #[v, .int .i64 1] w (RWs w 2 2) := by
  obtain ⟨i0, hi, hz0, hz1, hz2⟩ := info_parts u32_info
  obtain ⟨A, c, rfl⟩ := h1.shape
  have c0 : ∀ w', Ext w w' → Calls Tryz.prog 54 #[.slice A 1 c, .int .i64 0] w' fun e w'' => e = .returned (.int .u64 1) ∧ w' = w'' := fun w' h => word_any _ [1] 0 w' (W32.cons (by omega) W32.nil) (by decide) (h1.ext h)
  have c1 : ∀ w', Ext w w' → Calls Tryz.prog 54 #[.slice A 1 c, .int .i64 1] w' fun e w'' => e = .returned (.int .u64 0) ∧ w' = w'' := fun w' h => word_any _ [1] 1 w' (W32.cons (by omega) W32.nil) (by decide) (h1.ext h)
  have C0 := Lib.hid c0
  have C1 := Lib.hid c1
  clear c0 c1 h1
  have hmk := fun W => run_make_u32s1 W 0 (by omega)
  simp only [Int.natCast_zero, Int.ofNat_zero, Int.cast_ofNat_Int] at hmk
  simp only [List.replicate, u32s, List.map] at hmk
  have hor : bits .or .u64 2 0 = 2 := by decide
  have hor2 : bits .or .u64 0 0 = 0 := by decide
  go_enter Tryz.func55, Tryz.ntmps55
  go_wp2
  obtain ⟨wr, hwr⟩ : ∃ wr : World, wr = w.alloc (.cells #[] 136) := ⟨_, rfl⟩
  rw [← hwr]
  have hE : Ext w wr := by rw [hwr]; exact (Ext.refl w).alloc _
  have hown : wr.ownsRow w.heap.size 136 1 (.slice (some ⟨w.heap.size, 0, none⟩) 0 0) 0 [] := by
    rw [hwr]; exact ⟨rfl, .inr ⟨w.heap.size, 0, #[], rfl, Nat.le_refl _, heap_alloc_new w _, Nat.le_refl _, Nat.zero_le _, rfl, rfl⟩⟩
  have hb0 := hE.size'
  clear hwr hmk
  refine wp_loop_rounds 3 ?_
  rw [rounds_succ]
  go_wp2_with fail
  refine (C0.out _ (by (repeat (first | with_reducible assumption | with_reducible exact Ext.refl _ | with_reducible refine Ext.drew ?_ | with_reducible refine Ext.drewN ?_ _ | with_reducible refine Ext.alloc ?_ _ | with_reducible refine Ext.set2 ?_ (by omega) _ _ | with_reducible refine Ext.setCell ?_ (by first | omega | (simp; done) | (simp; omega)) _ | with_reducible refine Ext.trans ?_ (by with_reducible assumption))))).mono ?_
  rintro e w' ⟨rfl, rfl⟩
  go_wp2_with fail
  refine (word_neg _ _ _ _).mono ?_
  rintro e w' ⟨rfl, rfl⟩
  go_wp2_with (at_builtin; refine Hid.out ?_)
  refine wpList_append_own _ rfl (.tmp 20) (.tmp 35) _ rfl w.heap.size 136 i0 (.int .u32 0) 1 4 Tryz.underlying35 hi hz0 hz1 hz2 rfl (by decide) (.slice (some ⟨w.heap.size, 0, none⟩) 0 0) 0 _ rfl (hown.alloc _) ⟨wr.heap.size, 0, none⟩ 1 1 [.int .u32 2] rfl rfl (cell_one_new _ _ _) (by simp [Value.oneCell']) (by unfold maxLen; omega) (by omega) (by simp; omega) ?_
  intro v' w1 hown' hgrow _
  obtain ⟨g', cap', rfl⟩ := own_succ hown'
  have hE2 : Ext w w1 := (hE.alloc _).grown hgrow (own_block hown)
  clear hown hgrow hE hb0
  have hb0 := hE2.size'
  go_wp2
  rw [rounds_succ]
  go_wp2_with fail
  refine (C1.out _ (by (repeat (first | with_reducible assumption | with_reducible exact Ext.refl _ | with_reducible refine Ext.drew ?_ | with_reducible refine Ext.drewN ?_ _ | with_reducible refine Ext.alloc ?_ _ | with_reducible refine Ext.set2 ?_ (by omega) _ _ | with_reducible refine Ext.setCell ?_ (by first | omega | (simp; done) | (simp; omega)) _ | with_reducible refine Ext.trans ?_ (by with_reducible assumption))))).mono ?_
  rintro e w' ⟨rfl, rfl⟩
  go_wp2_with fail
  refine (C0.out _ (by (repeat (first | with_reducible assumption | with_reducible exact Ext.refl _ | with_reducible refine Ext.drew ?_ | with_reducible refine Ext.drewN ?_ _ | with_reducible refine Ext.alloc ?_ _ | with_reducible refine Ext.set2 ?_ (by omega) _ _ | with_reducible refine Ext.setCell ?_ (by first | omega | (simp; done) | (simp; omega)) _ | with_reducible refine Ext.trans ?_ (by with_reducible assumption))))).mono ?_
  rintro e w' ⟨rfl, rfl⟩
  go_wp2_with (at_builtin; refine Hid.out ?_)
  refine wpList_append_own _ rfl (.tmp 20) (.tmp 35) _ rfl w.heap.size 136 i0 (.int .u32 0) 1 4 Tryz.underlying35 hi hz0 hz1 hz2 rfl (by decide) (.slice (some ⟨g', 0, none⟩) 1 cap') 1 _ rfl (hown'.alloc _) ⟨w1.heap.size, 0, none⟩ 1 1 [.int .u32 0] rfl rfl (cell_one_new _ _ _) (by simp [Value.oneCell']) (by unfold maxLen; omega) (by omega) (by simp; omega) ?_
  intro v' w2 hown2 hgrow _
  obtain ⟨g2, cap2, rfl⟩ := own_succ hown2
  have hE3 : Ext w w2 := (hE2.alloc _).grown hgrow (own_block hown')
  clear hown' hgrow hE2 hb0
  go_wp2
  rw [rounds_succ]
  go_wp2
  go_ret
  exact ⟨[2, 0], _, _, _, rfl, Words.of_own (base := w.heap.size) hown2, W32.cons (by omega) (W32.cons (by omega) W32.nil), by simp [nv], by simp, hE3⟩
set_option maxRecDepth 100000 in
set_option maxHeartbeats 1000000 in
theorem left1_2 (v : Value) (w : World) (h1 : Words w v [1]) :
    Calls Tryz.prog 55 #[v, .int .i64 2] w (RWs w 4 2) := by
  obtain ⟨i0, hi, hz0, hz1, hz2⟩ := info_parts u32_info
  obtain ⟨A, c, rfl⟩ := h1.shape
  have c0 : ∀ w', Ext w w' → Calls Tryz.prog 54 #[.slice A 1 c, .int .i64 0] w' fun e w'' => e = .returned (.int .u64 1) ∧ w' = w'' := fun w' h => word_any _ [1] 0 w' (W32.cons (by omega) W32.nil) (by decide) (h1.ext h)
  have c1 : ∀ w', Ext w w' → Calls Tryz.prog 54 #[.slice A 1 c, .int .i64 1] w' fun e w'' => e = .returned (.int .u64 0) ∧ w' = w'' := fun w' h => word_any _ [1] 1 w' (W32.cons (by omega) W32.nil) (by decide) (h1.ext h)
  have C0 := Lib.hid c0
  have C1 := Lib.hid c1
  clear c0 c1 h1
  have hmk := fun W => run_make_u32s1 W 0 (by omega)
  simp only [Int.natCast_zero, Int.ofNat_zero, Int.cast_ofNat_Int] at hmk
  simp only [List.replicate, u32s, List.map] at hmk
  have hor : bits .or .u64 4 0 = 4 := by decide
  have hor2 : bits .or .u64 0 0 = 0 := by decide
  go_enter Tryz.func55, Tryz.ntmps55
  go_wp2
  obtain ⟨wr, hwr⟩ : ∃ wr : World, wr = w.alloc (.cells #[] 136) := ⟨_, rfl⟩
  rw [← hwr]
  have hE : Ext w wr := by rw [hwr]; exact (Ext.refl w).alloc _
  have hown : wr.ownsRow w.heap.size 136 1 (.slice (some ⟨w.heap.size, 0, none⟩) 0 0) 0 [] := by
    rw [hwr]; exact ⟨rfl, .inr ⟨w.heap.size, 0, #[], rfl, Nat.le_refl _, heap_alloc_new w _, Nat.le_refl _, Nat.zero_le _, rfl, rfl⟩⟩
  have hb0 := hE.size'
  clear hwr hmk
  refine wp_loop_rounds 3 ?_
  rw [rounds_succ]
  go_wp2_with fail
  refine (C0.out _ (by (repeat (first | with_reducible assumption | with_reducible exact Ext.refl _ | with_reducible refine Ext.drew ?_ | with_reducible refine Ext.drewN ?_ _ | with_reducible refine Ext.alloc ?_ _ | with_reducible refine Ext.set2 ?_ (by omega) _ _ | with_reducible refine Ext.setCell ?_ (by first | omega | (simp; done) | (simp; omega)) _ | with_reducible refine Ext.trans ?_ (by with_reducible assumption))))).mono ?_
  rintro e w' ⟨rfl, rfl⟩
  go_wp2_with fail
  refine (word_neg _ _ _ _).mono ?_
  rintro e w' ⟨rfl, rfl⟩
  go_wp2_with (at_builtin; refine Hid.out ?_)
  refine wpList_append_own _ rfl (.tmp 20) (.tmp 35) _ rfl w.heap.size 136 i0 (.int .u32 0) 1 4 Tryz.underlying35 hi hz0 hz1 hz2 rfl (by decide) (.slice (some ⟨w.heap.size, 0, none⟩) 0 0) 0 _ rfl (hown.alloc _) ⟨wr.heap.size, 0, none⟩ 1 1 [.int .u32 4] rfl rfl (cell_one_new _ _ _) (by simp [Value.oneCell']) (by unfold maxLen; omega) (by omega) (by simp; omega) ?_
  intro v' w1 hown' hgrow _
  obtain ⟨g', cap', rfl⟩ := own_succ hown'
  have hE2 : Ext w w1 := (hE.alloc _).grown hgrow (own_block hown)
  clear hown hgrow hE hb0
  have hb0 := hE2.size'
  go_wp2
  rw [rounds_succ]
  go_wp2_with fail
  refine (C1.out _ (by (repeat (first | with_reducible assumption | with_reducible exact Ext.refl _ | with_reducible refine Ext.drew ?_ | with_reducible refine Ext.drewN ?_ _ | with_reducible refine Ext.alloc ?_ _ | with_reducible refine Ext.set2 ?_ (by omega) _ _ | with_reducible refine Ext.setCell ?_ (by first | omega | (simp; done) | (simp; omega)) _ | with_reducible refine Ext.trans ?_ (by with_reducible assumption))))).mono ?_
  rintro e w' ⟨rfl, rfl⟩
  go_wp2_with fail
  refine (C0.out _ (by (repeat (first | with_reducible assumption | with_reducible exact Ext.refl _ | with_reducible refine Ext.drew ?_ | with_reducible refine Ext.drewN ?_ _ | with_reducible refine Ext.alloc ?_ _ | with_reducible refine Ext.set2 ?_ (by omega) _ _ | with_reducible refine Ext.setCell ?_ (by first | omega | (simp; done) | (simp; omega)) _ | with_reducible refine Ext.trans ?_ (by with_reducible assumption))))).mono ?_
  rintro e w' ⟨rfl, rfl⟩
  go_wp2_with (at_builtin; refine Hid.out ?_)
  refine wpList_append_own _ rfl (.tmp 20) (.tmp 35) _ rfl w.heap.size 136 i0 (.int .u32 0) 1 4 Tryz.underlying35 hi hz0 hz1 hz2 rfl (by decide) (.slice (some ⟨g', 0, none⟩) 1 cap') 1 _ rfl (hown'.alloc _) ⟨w1.heap.size, 0, none⟩ 1 1 [.int .u32 0] rfl rfl (cell_one_new _ _ _) (by simp [Value.oneCell']) (by unfold maxLen; omega) (by omega) (by simp; omega) ?_
  intro v' w2 hown2 hgrow _
  obtain ⟨g2, cap2, rfl⟩ := own_succ hown2
  have hE3 : Ext w w2 := (hE2.alloc _).grown hgrow (own_block hown')
  clear hown' hgrow hE2 hb0
  go_wp2
  rw [rounds_succ]
  go_wp2
  go_ret
  exact ⟨[4, 0], _, _, _, rfl, Words.of_own (base := w.heap.size) hown2, W32.cons (by omega) (W32.cons (by omega) W32.nil), by simp [nv], by simp, hE3⟩
set_option maxRecDepth 100000 in
set_option maxHeartbeats 1000000 in
theorem left1_3 (v : Value) (w : World) (h1 : Words w v [1]) :
    Calls Tryz.prog 55 #[v, .int .i64 3] w (RWs w 8 2) := by
  obtain ⟨i0, hi, hz0, hz1, hz2⟩ := info_parts u32_info
  obtain ⟨A, c, rfl⟩ := h1.shape
  have c0 : ∀ w', Ext w w' → Calls Tryz.prog 54 #[.slice A 1 c, .int .i64 0] w' fun e w'' => e = .returned (.int .u64 1) ∧ w' = w'' := fun w' h => word_any _ [1] 0 w' (W32.cons (by omega) W32.nil) (by decide) (h1.ext h)
  have c1 : ∀ w', Ext w w' → Calls Tryz.prog 54 #[.slice A 1 c, .int .i64 1] w' fun e w'' => e = .returned (.int .u64 0) ∧ w' = w'' := fun w' h => word_any _ [1] 1 w' (W32.cons (by omega) W32.nil) (by decide) (h1.ext h)
  have C0 := Lib.hid c0
  have C1 := Lib.hid c1
  clear c0 c1 h1
  have hmk := fun W => run_make_u32s1 W 0 (by omega)
  simp only [Int.natCast_zero, Int.ofNat_zero, Int.cast_ofNat_Int] at hmk
  simp only [List.replicate, u32s, List.map] at hmk
  have hor : bits .or .u64 8 0 = 8 := by decide
  have hor2 : bits .or .u64 0 0 = 0 := by decide
  go_enter Tryz.func55, Tryz.ntmps55
  go_wp2
  obtain ⟨wr, hwr⟩ : ∃ wr : World, wr = w.alloc (.cells #[] 136) := ⟨_, rfl⟩
  rw [← hwr]
  have hE : Ext w wr := by rw [hwr]; exact (Ext.refl w).alloc _
  have hown : wr.ownsRow w.heap.size 136 1 (.slice (some ⟨w.heap.size, 0, none⟩) 0 0) 0 [] := by
    rw [hwr]; exact ⟨rfl, .inr ⟨w.heap.size, 0, #[], rfl, Nat.le_refl _, heap_alloc_new w _, Nat.le_refl _, Nat.zero_le _, rfl, rfl⟩⟩
  have hb0 := hE.size'
  clear hwr hmk
  refine wp_loop_rounds 3 ?_
  rw [rounds_succ]
  go_wp2_with fail
  refine (C0.out _ (by (repeat (first | with_reducible assumption | with_reducible exact Ext.refl _ | with_reducible refine Ext.drew ?_ | with_reducible refine Ext.drewN ?_ _ | with_reducible refine Ext.alloc ?_ _ | with_reducible refine Ext.set2 ?_ (by omega) _ _ | with_reducible refine Ext.setCell ?_ (by first | omega | (simp; done) | (simp; omega)) _ | with_reducible refine Ext.trans ?_ (by with_reducible assumption))))).mono ?_
  rintro e w' ⟨rfl, rfl⟩
  go_wp2_with fail
  refine (word_neg _ _ _ _).mono ?_
  rintro e w' ⟨rfl, rfl⟩
  go_wp2_with (at_builtin; refine Hid.out ?_)
  refine wpList_append_own _ rfl (.tmp 20) (.tmp 35) _ rfl w.heap.size 136 i0 (.int .u32 0) 1 4 Tryz.underlying35 hi hz0 hz1 hz2 rfl (by decide) (.slice (some ⟨w.heap.size, 0, none⟩) 0 0) 0 _ rfl (hown.alloc _) ⟨wr.heap.size, 0, none⟩ 1 1 [.int .u32 8] rfl rfl (cell_one_new _ _ _) (by simp [Value.oneCell']) (by unfold maxLen; omega) (by omega) (by simp; omega) ?_
  intro v' w1 hown' hgrow _
  obtain ⟨g', cap', rfl⟩ := own_succ hown'
  have hE2 : Ext w w1 := (hE.alloc _).grown hgrow (own_block hown)
  clear hown hgrow hE hb0
  have hb0 := hE2.size'
  go_wp2
  rw [rounds_succ]
  go_wp2_with fail
  refine (C1.out _ (by (repeat (first | with_reducible assumption | with_reducible exact Ext.refl _ | with_reducible refine Ext.drew ?_ | with_reducible refine Ext.drewN ?_ _ | with_reducible refine Ext.alloc ?_ _ | with_reducible refine Ext.set2 ?_ (by omega) _ _ | with_reducible refine Ext.setCell ?_ (by first | omega | (simp; done) | (simp; omega)) _ | with_reducible refine Ext.trans ?_ (by with_reducible assumption))))).mono ?_
  rintro e w' ⟨rfl, rfl⟩
  go_wp2_with fail
  refine (C0.out _ (by (repeat (first | with_reducible assumption | with_reducible exact Ext.refl _ | with_reducible refine Ext.drew ?_ | with_reducible refine Ext.drewN ?_ _ | with_reducible refine Ext.alloc ?_ _ | with_reducible refine Ext.set2 ?_ (by omega) _ _ | with_reducible refine Ext.setCell ?_ (by first | omega | (simp; done) | (simp; omega)) _ | with_reducible refine Ext.trans ?_ (by with_reducible assumption))))).mono ?_
  rintro e w' ⟨rfl, rfl⟩
  go_wp2_with (at_builtin; refine Hid.out ?_)
  refine wpList_append_own _ rfl (.tmp 20) (.tmp 35) _ rfl w.heap.size 136 i0 (.int .u32 0) 1 4 Tryz.underlying35 hi hz0 hz1 hz2 rfl (by decide) (.slice (some ⟨g', 0, none⟩) 1 cap') 1 _ rfl (hown'.alloc _) ⟨w1.heap.size, 0, none⟩ 1 1 [.int .u32 0] rfl rfl (cell_one_new _ _ _) (by simp [Value.oneCell']) (by unfold maxLen; omega) (by omega) (by simp; omega) ?_
  intro v' w2 hown2 hgrow _
  obtain ⟨g2, cap2, rfl⟩ := own_succ hown2
  have hE3 : Ext w w2 := (hE2.alloc _).grown hgrow (own_block hown')
  clear hown' hgrow hE2 hb0
  go_wp2
  rw [rounds_succ]
  go_wp2
  go_ret
  exact ⟨[8, 0], _, _, _, rfl, Words.of_own (base := w.heap.size) hown2, W32.cons (by omega) (W32.cons (by omega) W32.nil), by simp [nv], by simp, hE3⟩
set_option maxRecDepth 100000 in
set_option maxHeartbeats 1000000 in
theorem left1_4 (v : Value) (w : World) (h1 : Words w v [1]) :
    Calls Tryz.prog 55 #[v, .int .i64 4] w (RWs w 16 2) := by
  obtain ⟨i0, hi, hz0, hz1, hz2⟩ := info_parts u32_info
  obtain ⟨A, c, rfl⟩ := h1.shape
  have c0 : ∀ w', Ext w w' → Calls Tryz.prog 54 #[.slice A 1 c, .int .i64 0] w' fun e w'' => e = .returned (.int .u64 1) ∧ w' = w'' := fun w' h => word_any _ [1] 0 w' (W32.cons (by omega) W32.nil) (by decide) (h1.ext h)
  have c1 : ∀ w', Ext w w' → Calls Tryz.prog 54 #[.slice A 1 c, .int .i64 1] w' fun e w'' => e = .returned (.int .u64 0) ∧ w' = w'' := fun w' h => word_any _ [1] 1 w' (W32.cons (by omega) W32.nil) (by decide) (h1.ext h)
  have C0 := Lib.hid c0
  have C1 := Lib.hid c1
  clear c0 c1 h1
  have hmk := fun W => run_make_u32s1 W 0 (by omega)
  simp only [Int.natCast_zero, Int.ofNat_zero, Int.cast_ofNat_Int] at hmk
  simp only [List.replicate, u32s, List.map] at hmk
  have hor : bits .or .u64 16 0 = 16 := by decide
  have hor2 : bits .or .u64 0 0 = 0 := by decide
  go_enter Tryz.func55, Tryz.ntmps55
  go_wp2
  obtain ⟨wr, hwr⟩ : ∃ wr : World, wr = w.alloc (.cells #[] 136) := ⟨_, rfl⟩
  rw [← hwr]
  have hE : Ext w wr := by rw [hwr]; exact (Ext.refl w).alloc _
  have hown : wr.ownsRow w.heap.size 136 1 (.slice (some ⟨w.heap.size, 0, none⟩) 0 0) 0 [] := by
    rw [hwr]; exact ⟨rfl, .inr ⟨w.heap.size, 0, #[], rfl, Nat.le_refl _, heap_alloc_new w _, Nat.le_refl _, Nat.zero_le _, rfl, rfl⟩⟩
  have hb0 := hE.size'
  clear hwr hmk
  refine wp_loop_rounds 3 ?_
  rw [rounds_succ]
  go_wp2_with fail
  refine (C0.out _ (by (repeat (first | with_reducible assumption | with_reducible exact Ext.refl _ | with_reducible refine Ext.drew ?_ | with_reducible refine Ext.drewN ?_ _ | with_reducible refine Ext.alloc ?_ _ | with_reducible refine Ext.set2 ?_ (by omega) _ _ | with_reducible refine Ext.setCell ?_ (by first | omega | (simp; done) | (simp; omega)) _ | with_reducible refine Ext.trans ?_ (by with_reducible assumption))))).mono ?_
  rintro e w' ⟨rfl, rfl⟩
  go_wp2_with fail
  refine (word_neg _ _ _ _).mono ?_
  rintro e w' ⟨rfl, rfl⟩
  go_wp2_with (at_builtin; refine Hid.out ?_)
  refine wpList_append_own _ rfl (.tmp 20) (.tmp 35) _ rfl w.heap.size 136 i0 (.int .u32 0) 1 4 Tryz.underlying35 hi hz0 hz1 hz2 rfl (by decide) (.slice (some ⟨w.heap.size, 0, none⟩) 0 0) 0 _ rfl (hown.alloc _) ⟨wr.heap.size, 0, none⟩ 1 1 [.int .u32 16] rfl rfl (cell_one_new _ _ _) (by simp [Value.oneCell']) (by unfold maxLen; omega) (by omega) (by simp; omega) ?_
  intro v' w1 hown' hgrow _
  obtain ⟨g', cap', rfl⟩ := own_succ hown'
  have hE2 : Ext w w1 := (hE.alloc _).grown hgrow (own_block hown)
  clear hown hgrow hE hb0
  have hb0 := hE2.size'
  go_wp2
  rw [rounds_succ]
  go_wp2_with fail
  refine (C1.out _ (by (repeat (first | with_reducible assumption | with_reducible exact Ext.refl _ | with_reducible refine Ext.drew ?_ | with_reducible refine Ext.drewN ?_ _ | with_reducible refine Ext.alloc ?_ _ | with_reducible refine Ext.set2 ?_ (by omega) _ _ | with_reducible refine Ext.setCell ?_ (by first | omega | (simp; done) | (simp; omega)) _ | with_reducible refine Ext.trans ?_ (by with_reducible assumption))))).mono ?_
  rintro e w' ⟨rfl, rfl⟩
  go_wp2_with fail
  refine (C0.out _ (by (repeat (first | with_reducible assumption | with_reducible exact Ext.refl _ | with_reducible refine Ext.drew ?_ | with_reducible refine Ext.drewN ?_ _ | with_reducible refine Ext.alloc ?_ _ | with_reducible refine Ext.set2 ?_ (by omega) _ _ | with_reducible refine Ext.setCell ?_ (by first | omega | (simp; done) | (simp; omega)) _ | with_reducible refine Ext.trans ?_ (by with_reducible assumption))))).mono ?_
  rintro e w' ⟨rfl, rfl⟩
  go_wp2_with (at_builtin; refine Hid.out ?_)
  refine wpList_append_own _ rfl (.tmp 20) (.tmp 35) _ rfl w.heap.size 136 i0 (.int .u32 0) 1 4 Tryz.underlying35 hi hz0 hz1 hz2 rfl (by decide) (.slice (some ⟨g', 0, none⟩) 1 cap') 1 _ rfl (hown'.alloc _) ⟨w1.heap.size, 0, none⟩ 1 1 [.int .u32 0] rfl rfl (cell_one_new _ _ _) (by simp [Value.oneCell']) (by unfold maxLen; omega) (by omega) (by simp; omega) ?_
  intro v' w2 hown2 hgrow _
  obtain ⟨g2, cap2, rfl⟩ := own_succ hown2
  have hE3 : Ext w w2 := (hE2.alloc _).grown hgrow (own_block hown')
  clear hown' hgrow hE2 hb0
  go_wp2
  rw [rounds_succ]
  go_wp2
  go_ret
  exact ⟨[16, 0], _, _, _, rfl, Words.of_own (base := w.heap.size) hown2, W32.cons (by omega) (W32.cons (by omega) W32.nil), by simp [nv], by simp, hE3⟩
set_option maxRecDepth 100000 in
set_option maxHeartbeats 1000000 in
theorem left1_5 (v : Value) (w : World) (h1 : Words w v [1]) :
    Calls Tryz.prog 55 #[v, .int .i64 5] w (RWs w 32 2) := by
  obtain ⟨i0, hi, hz0, hz1, hz2⟩ := info_parts u32_info
  obtain ⟨A, c, rfl⟩ := h1.shape
  have c0 : ∀ w', Ext w w' → Calls Tryz.prog 54 #[.slice A 1 c, .int .i64 0] w' fun e w'' => e = .returned (.int .u64 1) ∧ w' = w'' := fun w' h => word_any _ [1] 0 w' (W32.cons (by omega) W32.nil) (by decide) (h1.ext h)
  have c1 : ∀ w', Ext w w' → Calls Tryz.prog 54 #[.slice A 1 c, .int .i64 1] w' fun e w'' => e = .returned (.int .u64 0) ∧ w' = w'' := fun w' h => word_any _ [1] 1 w' (W32.cons (by omega) W32.nil) (by decide) (h1.ext h)
  have C0 := Lib.hid c0
  have C1 := Lib.hid c1
  clear c0 c1 h1
  have hmk := fun W => run_make_u32s1 W 0 (by omega)
  simp only [Int.natCast_zero, Int.ofNat_zero, Int.cast_ofNat_Int] at hmk
  simp only [List.replicate, u32s, List.map] at hmk
  have hor : bits .or .u64 32 0 = 32 := by decide
  have hor2 : bits .or .u64 0 0 = 0 := by decide
  go_enter Tryz.func55, Tryz.ntmps55
  go_wp2
  obtain ⟨wr, hwr⟩ : ∃ wr : World, wr = w.alloc (.cells #[] 136) := ⟨_, rfl⟩
  rw [← hwr]
  have hE : Ext w wr := by rw [hwr]; exact (Ext.refl w).alloc _
  have hown : wr.ownsRow w.heap.size 136 1 (.slice (some ⟨w.heap.size, 0, none⟩) 0 0) 0 [] := by
    rw [hwr]; exact ⟨rfl, .inr ⟨w.heap.size, 0, #[], rfl, Nat.le_refl _, heap_alloc_new w _, Nat.le_refl _, Nat.zero_le _, rfl, rfl⟩⟩
  have hb0 := hE.size'
  clear hwr hmk
  refine wp_loop_rounds 3 ?_
  rw [rounds_succ]
  go_wp2_with fail
  refine (C0.out _ (by (repeat (first | with_reducible assumption | with_reducible exact Ext.refl _ | with_reducible refine Ext.drew ?_ | with_reducible refine Ext.drewN ?_ _ | with_reducible refine Ext.alloc ?_ _ | with_reducible refine Ext.set2 ?_ (by omega) _ _ | with_reducible refine Ext.setCell ?_ (by first | omega | (simp; done) | (simp; omega)) _ | with_reducible refine Ext.trans ?_ (by with_reducible assumption))))).mono ?_
  rintro e w' ⟨rfl, rfl⟩
  go_wp2_with fail
  refine (word_neg _ _ _ _).mono ?_
  rintro e w' ⟨rfl, rfl⟩
  go_wp2_with (at_builtin; refine Hid.out ?_)
  refine wpList_append_own _ rfl (.tmp 20) (.tmp 35) _ rfl w.heap.size 136 i0 (.int .u32 0) 1 4 Tryz.underlying35 hi hz0 hz1 hz2 rfl (by decide) (.slice (some ⟨w.heap.size, 0, none⟩) 0 0) 0 _ rfl (hown.alloc _) ⟨wr.heap.size, 0, none⟩ 1 1 [.int .u32 32] rfl rfl (cell_one_new _ _ _) (by simp [Value.oneCell']) (by unfold maxLen; omega) (by omega) (by simp; omega) ?_
  intro v' w1 hown' hgrow _
  obtain ⟨g', cap', rfl⟩ := own_succ hown'
  have hE2 : Ext w w1 := (hE.alloc _).grown hgrow (own_block hown)
  clear hown hgrow hE hb0
  have hb0 := hE2.size'
  go_wp2
  rw [rounds_succ]
  go_wp2_with fail
  refine (C1.out _ (by (repeat (first | with_reducible assumption | with_reducible exact Ext.refl _ | with_reducible refine Ext.drew ?_ | with_reducible refine Ext.drewN ?_ _ | with_reducible refine Ext.alloc ?_ _ | with_reducible refine Ext.set2 ?_ (by omega) _ _ | with_reducible refine Ext.setCell ?_ (by first | omega | (simp; done) | (simp; omega)) _ | with_reducible refine Ext.trans ?_ (by with_reducible assumption))))).mono ?_
  rintro e w' ⟨rfl, rfl⟩
  go_wp2_with fail
  refine (C0.out _ (by (repeat (first | with_reducible assumption | with_reducible exact Ext.refl _ | with_reducible refine Ext.drew ?_ | with_reducible refine Ext.drewN ?_ _ | with_reducible refine Ext.alloc ?_ _ | with_reducible refine Ext.set2 ?_ (by omega) _ _ | with_reducible refine Ext.setCell ?_ (by first | omega | (simp; done) | (simp; omega)) _ | with_reducible refine Ext.trans ?_ (by with_reducible assumption))))).mono ?_
  rintro e w' ⟨rfl, rfl⟩
  go_wp2_with (at_builtin; refine Hid.out ?_)
  refine wpList_append_own _ rfl (.tmp 20) (.tmp 35) _ rfl w.heap.size 136 i0 (.int .u32 0) 1 4 Tryz.underlying35 hi hz0 hz1 hz2 rfl (by decide) (.slice (some ⟨g', 0, none⟩) 1 cap') 1 _ rfl (hown'.alloc _) ⟨w1.heap.size, 0, none⟩ 1 1 [.int .u32 0] rfl rfl (cell_one_new _ _ _) (by simp [Value.oneCell']) (by unfold maxLen; omega) (by omega) (by simp; omega) ?_
  intro v' w2 hown2 hgrow _
  obtain ⟨g2, cap2, rfl⟩ := own_succ hown2
  have hE3 : Ext w w2 := (hE2.alloc _).grown hgrow (own_block hown')
  clear hown' hgrow hE2 hb0
  go_wp2
  rw [rounds_succ]
  go_wp2
  go_ret
  exact ⟨[32, 0], _, _, _, rfl, Words.of_own (base := w.heap.size) hown2, W32.cons (by omega) (W32.cons (by omega) W32.nil), by simp [nv], by simp, hE3⟩

theorem left1_any (n : Nat) (h1 : 1 ≤ n) (h5 : n ≤ 5) (v : Value) (w : World) (h : Words w v [1]) :
    Calls Tryz.prog 55 #[v, .int .i64 (n : Int)] w (RWs w (2 ^ n) 2) := by
  obtain rfl | rfl | rfl | rfl | rfl : n = 1 ∨ n = 2 ∨ n = 3 ∨ n = 4 ∨ n = 5 := by omega
  · exact left1_1 v w h
  · exact left1_2 v w h
  · exact left1_3 v w h
  · exact left1_4 v w h
  · exact left1_5 v w h

end Go.Proofs.YtddgjlfniabehaaGreatDoor

/- The reference's square roots (of small numbers). -/
namespace Go.Proofs.YtddgjlfniabehaaGreatDoor
open Go.RowKit
attribute [local go_sem ↓] Go.wp_at_zero Go.wp_at_succ

theorem newton_step {z s : Nat} (hs : 0 < s) (h : z < (s + 1) * (s + 1)) : z < ((s + z / s) / 2 + 1) * ((s + z / s) / 2 + 1) := by
  have h1 : z < s * (z / s + 1) := by have := Nat.lt_mul_div_succ z hs; simpa [Nat.mul_comm] using this
  generalize z / s = q at *
  obtain ⟨t, ht⟩ : ∃ t, t = (s + q) / 2 + 1 := ⟨_, rfl⟩
  rw [← ht]
  have h2 : s + (q + 1) ≤ 2 * t := by omega
  have h3 : (s + (q + 1)) * (s + (q + 1)) ≤ 2 * t * (2 * t) := Nat.mul_le_mul h2 h2
  have h4 : 4 * (s * (q + 1)) ≤ (s + (q + 1)) * (s + (q + 1)) := by
    generalize q + 1 = p at *
    have : ((s : Int) - p) * ((s : Int) - p) ≥ 0 := by
      rcases Int.le_total 0 ((s : Int) - p) with h | h
      · exact Int.mul_nonneg h h
      · exact Int.mul_nonneg_of_nonpos_of_nonpos h h
    have e1 : ((s : Int) - p) * ((s : Int) - p) = s * s - 2 * (s * p) + p * p := by
      rw [Int.sub_mul, Int.mul_sub, Int.mul_sub, Int.mul_comm (p : Int) s]; omega
    have e2 : (s + p) * (s + p) = s * s + 2 * (s * p) + p * p := by
      rw [Nat.add_mul, Nat.mul_add, Nat.mul_add, Nat.mul_comm p s]; omega
    rw [e2]
    have e3 : (((s * s : Nat)) : Int) = (s : Int) * s := by push_cast; rfl
    have e4 : (((s * p : Nat)) : Int) = (s : Int) * p := by push_cast; rfl
    have e5 : (((p * p : Nat)) : Int) = (p : Int) * p := by push_cast; rfl
    rw [e1, ← e3, ← e4, ← e5] at this
    omega
  have h5 : 2 * t * (2 * t) = 4 * (t * t) := by rw [Nat.mul_mul_mul_comm]
  omega
theorem newton_stop {z s : Nat} (hs : 0 < s) (h : s ≤ (s + z / s) / 2) : s * s ≤ z := by
  have h1 : s ≤ z / s := by omega
  exact (Nat.le_div_iff_mul_le hs).1 h1
theorem newton_start {z n : Nat} (h : n = (blen z + 1) / 2) : z < (2 ^ n + 1) * (2 ^ n + 1) := by
  have h1 := blen_lt z
  have h2 : 2 ^ blen z ≤ 2 ^ (n + n) := Nat.pow_le_pow_right (by omega) (by omega)
  rw [Nat.pow_add] at h2
  have h3 : 2 ^ n * 2 ^ n ≤ (2 ^ n + 1) * (2 ^ n + 1) := Nat.mul_le_mul (by omega) (by omega)
  omega

/-- At the head of a round: the variable holds a number that is not less than the root. -/
def SqI (W : World) (G z k : Nat) (wr : World) : Prop := ∃ (sv : Nat) (s : Bool) (A : Option Addr) (n c : Nat), Blk wr G 37 #[.bool s, .slice A n c] ∧ IsInt wr (.bool s) (.slice A n c) (sv : Int) ∧
  0 < sv ∧ z < (sv + 1) * (sv + 1) ∧ sv ≤ k ∧ sv ≤ 2000 ∧ Ext W wr
/-- Behind the next number: a new variable holds it. -/
def SqT (wr : World) (m : Int) (s6 : Value) (wx : World) : Prop := ∃ (tb : Nat) (s : Bool) (A : Option Addr) (n c : Nat), s6 = .pointer (some ⟨tb, 0, none⟩) ∧ Blk wx tb 37 #[.bool s, .slice A n c] ∧ IsInt wx (.bool s) (.slice A n c) m ∧ Ext wr wx ∧ wr.heap.size ≤ tb
section
variable {wr w5 : World} {s : Bool} {A : Option Addr} {n c tb : Nat} {m : Int} (hE : Ext wr w5) (h : IsInt w5 (.bool s) (.slice A n c) m)
include hE h
theorem sq_f1 : SqT wr m (.pointer (some ⟨w5.heap.size, 0, none⟩)) (w5.alloc (.cells #[.bool s, .slice A n c] 37)) :=
  ⟨_, _, _, _, _, rfl, Blk.newAt _ _ _ rfl, h.alloc _, hE.alloc _, hE.size'⟩
theorem sq_f2 (hb : Blk w5 tb 37 #[.bool false, .slice none 0 0]) (htb : wr.heap.size ≤ tb) : SqT wr m (.pointer (some ⟨tb, 0, none⟩)) ((w5.setCell ⟨tb, 0, none⟩ (.bool s)).setCell ⟨tb, 1, none⟩ (.slice A n c)) :=
  ⟨_, _, _, _, _, rfl, hb.set2 _ _, h.set2 hb.type (by decide) _ _, hE.set2 htb _ _, htb⟩
end

set_option maxRecDepth 100000 in
set_option maxHeartbeats 4000000 in
theorem Sqrt1_pos (b1 v1 : Value) (z : Nat) (w : World) (h0 : 0 < z) (hz : z ≤ 1023) (h1 : IsInt w b1 v1 (z : Int)) :
    Calls Tryz.prog 25 #[.agg #[b1, v1]] w fun e w' => ∃ r : Nat, r * r ≤ z ∧ z < (r + 1) * (r + 1) ∧ RDM w r ((z : Int) - (r : Int) * r) e w' := by
  obtain ⟨s, A, n, c, rfl, rfl, es, en, hN⟩ := h1.form
  have hs0 : s = false := by rw [es]; simp
  have hn0 : ((n : Int) == 0) = false := by rw [beq_eq_false_iff_ne]; have := @wordsOf_len0 (z : Int).natAbs; omega
  have HI := Lib.hid h1
  obtain ⟨L, hL⟩ : ∃ L, L = blen z := ⟨_, rfl⟩
  have hb1 : 1 ≤ L := by rw [hL, blen_pos h0]; omega
  have hb2 : L ≤ 10 := by rw [hL]; exact blen_le z 10 (by omega)
  have cb : ∀ w', Ext w w' → Calls Tryz.prog 56 #[.agg #[.bool s, .slice A n c]] w' fun e w'' => e = .returned (.int .i64 (L : Int)) ∧ Ext w' w'' := fun w' h => by
    have := Bits1_any _ _ (z : Int) w' (by omega) (by omega) (h1.ext h)
    rwa [Int.natAbs_natCast, ← hL] at this
  have CB := Lib.hid cb
  have HLz := Lib.hid hL
  clear h1 cb hL hN es en
  subst hs0
  obtain ⟨N, hNN, hN2⟩ : ∃ N : Nat, ((L : Int) + 1) / 2 = (N : Int) ∧ N = (L + 1) / 2 := ⟨(L + 1) / 2, by omega, rfl⟩
  have hstart := Lib.hid (newton_start (z := z) (n := N) (by rw [hN2, HLz.out]))
  have hN1 : 1 ≤ N := by omega
  have hN5 : N ≤ 5 := by omega
  have hpw : 2 ^ N ≤ 32 := by have := Nat.pow_le_pow_right (n := 2) (by omega) hN5; omega
  have hpw0 : 0 < 2 ^ N := Nat.pow_pos (by omega)
  have HN2 := Lib.hid hN2
  clear hN2
  go_enter Tryz.func25, Tryz.ntmps25
  go_wp2_with fail
  obtain ⟨W, hW⟩ : ∃ W : World, W = ((w.alloc (.cells #[.bool false, .slice A n c] 37)).alloc (.cells #[.bool false, .slice none 0 0] 37)).alloc (.cells #[.bool false, .slice none 0 0] 37) := ⟨_, rfl⟩
  rw [← hW]
  have hE : Ext w W := by rw [hW]; exact (((Ext.refl w).alloc _).alloc _).alloc _
  have hB1 : Blk W (w.heap.size) 37 #[.bool false, .slice A n c] := by rw [hW]; exact ((Blk.newAt _ _ _ (by simp)).alloc _).alloc _
  have hB2 : Blk W (w.heap.size + 1) 37 #[.bool false, .slice none 0 0] := by rw [hW]; exact (Blk.newAt _ _ _ (by simp)).alloc _
  have hB3 : Blk W (w.heap.size + 1 + 1) 37 #[.bool false, .slice none 0 0] := by rw [hW]; exact Blk.newAt _ _ _ (by simp)
  have HWs := Lib.hid (show W.heap.size = w.heap.size + 1 + 1 + 1 by rw [hW]; simp)
  clear hW
  have HK : Hid (∀ w', Ext W w' → Ext w w' ∧ w'.cell? ⟨w.heap.size, 0, none⟩ = some (.bool false) ∧ w'.cell? ⟨w.heap.size, 1, none⟩ = some (.slice A n c)) := fun w' h => ⟨hE.trans h, (hB1.ext h).cell 0, (hB1.ext h).cell 1⟩
  have HK2 : Hid (∀ w' w'', w'.grownBy w'' (some (w.heap.size + 1 + 1)) → Ext W w' → Ext w w'' ∧ w''.cell? ⟨w.heap.size, 0, none⟩ = some (.bool false) ∧ w''.cell? ⟨w.heap.size, 1, none⟩ = some (.slice A n c)) := fun w' w'' hg h => ⟨(hE.trans h).grown hg (by intro k hk; injection hk with hk; omega), (hg.cell_far ⟨w.heap.size, 0, none⟩ (hB1.ext h).lt (by first | (simp; done) | (simp; omega))).trans ((hB1.ext h).cell 0), (hg.cell_far ⟨w.heap.size, 1, none⟩ (hB1.ext h).lt (by first | (simp; done) | (simp; omega))).trans ((hB1.ext h).cell 1)⟩
  have hZ : W.heap.size ≤ w.heap.size + 1 + 1 + 1 := by have := HWs.out; omega
  refine (CB.out _ (hE.alloc _)).mono ?_
  rintro e w0 ⟨rfl, he0⟩
  have hw1 : Words w0 (.slice (some ⟨w.heap.size + 1 + 1 + 1, 0, none⟩) 1 1) [1] := (Words.of_blk (l := [1]) (Blk.newAt W _ (u32s [1]) HWs.out) (Nat.le_refl _) (Nat.le_refl _)).ext he0
  go_wp2_with fail
  refine (left1_any N hN1 hN5 _ _ hw1).mono ?_
  rintro e w1 ⟨ws, A1, n1, c1, rfl, hm1, hw2, hv, hl2, he1⟩
  have HV := Lib.hid hv
  clear hv
  go_wp2_with fail
  refine (made_any _ _ ws _ hw2 (by omega) hm1).mono ?_
  rw [HV.out]
  rintro e w3 ⟨s3, A3, n3, c3, rfl, hm3, he3⟩
  have hm3 : IsInt w3 (.bool s3) (.slice A3 n3 c3) ((2 ^ N : Nat) : Int) := by simpa [signed] using hm3
  have hEW : Ext W w3 := ((((Ext.refl W).alloc _).trans he0).trans he1).trans he3
  have p3 := HK.out w3 hEW
  go_upto_region 6 with fail
  clear p3
  go_loopg [] (2 ^ N) (fun k wr => SqI w3 w3.heap.size z k wr)
  case atStart => exact ⟨2 ^ N, s3, A3, n3, c3, Blk.newAt _ _ _ rfl, hm3.alloc _, hpw0, hstart.out, Nat.le_refl _, by omega, (Ext.refl _).alloc _⟩
  case round =>
    obtain ⟨sv, s4, A4, n4, c4, hG, hsv, hs0, hzs, hsk, hs2, hEr⟩ := hrel
    have hEwr : Ext w wr := (hE.trans hEW).trans hEr
    have hEWr : Ext W wr := hEW.trans hEr
    have k1 := hB1.ext hEWr
    have k2 := hB2.ext hEWr
    have k3 := hB3.ext hEWr
    have hGl : w.heap.size + 1 + 1 < w3.heap.size := (hB3.ext hEW).lt
    have hz64 : ((z : Nat) : Int).natAbs ≤ 18446744073709551615 := by omega
    have hs64 : ((sv : Nat) : Int).natAbs ≤ 18446744073709551615 := by omega
    have hsn0 : ((sv : Nat) : Int) ≠ 0 := by omega
    have hdl : z / sv ≤ 1023 := Nat.le_trans (Nat.div_le_self _ _) hz
    have hc1 : (z : Int) / (sv : Int) = ((z / sv : Nat) : Int) := (Int.natCast_ediv z sv).symm
    obtain ⟨q, hq⟩ : ∃ q, q = z / sv := ⟨_, rfl⟩
    rw [← hq] at hdl hc1
    have HC1 := Lib.hid hc1
    have hl1 : (wordsOf ((sv : Nat) : Int).natAbs).length ≤ 1000000 := by have := wordsOf_len1 (m := ((sv : Nat) : Int).natAbs) (by omega); omega
    have hl2 : (wordsOf ((q : Nat) : Int).natAbs).length ≤ 1000000 := by have := wordsOf_len1 (m := ((q : Nat) : Int).natAbs) (by omega); omega
    have hl3 : (((sv : Nat) : Int) + ((q : Nat) : Int)).natAbs ≤ 18446744073709551615 := by omega
    have hc2 : (((sv : Nat) : Int) + ((q : Nat) : Int)) / 2 = (((sv + q) / 2 : Nat) : Int) := by omega
    have HC2 := Lib.hid hc2
    have HQ := Lib.hid hq
    have hGe : w3.heap.size < wr.heap.size := hG.lt
    clear hq hc1 hc2 hB1 hB2 hB3 HK HK2 hm3
    generalize hGG : w3.heap.size = G at *
    have hGw : w3.heap.size ≤ G := by omega
    clear hGG
    have HK : Hid (∀ w', Ext wr w' → Ext w w' ∧ w'.cell? ⟨w.heap.size, 0, none⟩ = some (.bool false) ∧ w'.cell? ⟨w.heap.size, 1, none⟩ = some (.slice A n c) ∧ w'.cell? ⟨G, 0, none⟩ = some (.bool s4) ∧ w'.cell? ⟨G, 1, none⟩ = some (.slice A4 n4 c4)) := fun w' h => ⟨hEwr.trans h, (k1.ext h).cell 0, (k1.ext h).cell 1, (hG.ext h).cell 0, (hG.ext h).cell 1⟩
    have HK2 : Hid (∀ w' w'', w'.grownBy w'' (some (w.heap.size + 1)) → Ext wr w' → Ext w w'' ∧ w''.cell? ⟨w.heap.size, 0, none⟩ = some (.bool false) ∧ w''.cell? ⟨w.heap.size, 1, none⟩ = some (.slice A n c) ∧ w''.cell? ⟨G, 0, none⟩ = some (.bool s4) ∧ w''.cell? ⟨G, 1, none⟩ = some (.slice A4 n4 c4)) := fun w' w'' hg h => ⟨(hEwr.trans h).grown hg (by intro k hk; injection hk with hk; omega), (hg.cell_far ⟨w.heap.size, 0, none⟩ (k1.ext h).lt (by first | (simp; done) | (simp; omega))).trans ((k1.ext h).cell 0), (hg.cell_far ⟨w.heap.size, 1, none⟩ (k1.ext h).lt (by first | (simp; done) | (simp; omega))).trans ((k1.ext h).cell 1), (hg.cell_far ⟨G, 0, none⟩ (hG.ext h).lt (by first | (simp; done) | (simp; omega))).trans ((hG.ext h).cell 0), (hg.cell_far ⟨G, 1, none⟩ (hG.ext h).lt (by first | (simp; done) | (simp; omega))).trans ((hG.ext h).cell 1)⟩
    go_upto_region 6 with fail
    go_cut [6] (fun s6 wx => SqT wr (((sv + q) / 2 : Nat) : Int) s6 wx)
    case first =>
      go_region_held3 (fun w' => Ext w w' ∧ w'.cell? ⟨w.heap.size, 0, none⟩ = some (.bool false) ∧ w'.cell? ⟨w.heap.size, 1, none⟩ = some (.slice A n c) ∧ w'.cell? ⟨G, 0, none⟩ = some (.bool s4) ∧ w'.cell? ⟨G, 1, none⟩ = some (.slice A4 n4 c4))
        (first | (refine HK.out _ ?_; (repeat (first | with_reducible assumption | with_reducible exact Ext.refl _ | with_reducible refine Ext.drew ?_ | with_reducible refine Ext.drewN ?_ _ | with_reducible refine Ext.alloc ?_ _ | with_reducible refine Ext.set2 ?_ (by omega) _ _ | with_reducible refine Ext.setCell ?_ (by first | omega | (simp; done) | (simp; omega)) _ | with_reducible refine Ext.trans ?_ (by with_reducible assumption))); done) | exact HK2.out _ _ (by (repeat (first | apply grow_set | exact World.grownBy.refl _ _))) (by (repeat (first | with_reducible assumption | with_reducible exact Ext.refl _ | with_reducible refine Ext.drew ?_ | with_reducible refine Ext.drewN ?_ _ | with_reducible refine Ext.alloc ?_ _ | with_reducible refine Ext.set2 ?_ (by omega) _ _ | with_reducible refine Ext.setCell ?_ (by first | omega | (simp; done) | (simp; omega)) _ | with_reducible refine Ext.trans ?_ (by with_reducible assumption)))))
        (first | (go_at_call 57; (with_reducible refine (iDiv1_any _ _ _ _ (z : Int) (sv : Int) _ hz64 hs64 hsn0 (HI.out.ext (by (repeat (first | with_reducible assumption | with_reducible exact Ext.refl _ | with_reducible refine Ext.drew ?_ | with_reducible refine Ext.drewN ?_ _ | with_reducible refine Ext.alloc ?_ _ | with_reducible refine Ext.set2 ?_ (by omega) _ _ | with_reducible refine Ext.setCell ?_ (by first | omega | (simp; done) | (simp; omega)) _ | with_reducible refine Ext.trans ?_ (by with_reducible assumption))))) (hsv.ext (by (repeat (first | with_reducible assumption | with_reducible exact Ext.refl _ | with_reducible refine Ext.drew ?_ | with_reducible refine Ext.drewN ?_ _ | with_reducible refine Ext.alloc ?_ _ | with_reducible refine Ext.set2 ?_ (by omega) _ _ | with_reducible refine Ext.setCell ?_ (by first | omega | (simp; done) | (simp; omega)) _ | with_reducible refine Ext.trans ?_ (by with_reducible assumption)))))).mono ?_); rw [HC1.out]; rintro e w4 ⟨s5, A5, n5, c5, rfl, hm4, he4⟩; obtain ⟨q4, r4, z4⟩ := he4.rules; have y4 := he4.size'; (try simp at y4); (try (have v01 : wr.heap.size < w4.heap.size := by omega))) | (go_at_call 58; (with_reducible refine (iAdd1_any _ _ _ _ (sv : Int) (q : Int) _ hl1 hl2 (hsv.ext (by (repeat (first | with_reducible assumption | with_reducible exact Ext.refl _ | with_reducible refine Ext.drew ?_ | with_reducible refine Ext.drewN ?_ _ | with_reducible refine Ext.alloc ?_ _ | with_reducible refine Ext.set2 ?_ (by omega) _ _ | with_reducible refine Ext.setCell ?_ (by first | omega | (simp; done) | (simp; omega)) _ | with_reducible refine Ext.trans ?_ (by with_reducible assumption))))) (hm4.ext (by (repeat (first | with_reducible assumption | with_reducible exact Ext.refl _ | with_reducible refine Ext.drew ?_ | with_reducible refine Ext.drewN ?_ _ | with_reducible refine Ext.alloc ?_ _ | with_reducible refine Ext.set2 ?_ (by omega) _ _ | with_reducible refine Ext.setCell ?_ (by first | omega | (simp; done) | (simp; omega)) _ | with_reducible refine Ext.trans ?_ (by with_reducible assumption)))))).mono ?_); rintro e w5 ⟨s6, A6, n6, c6, rfl, hm5, he5⟩; obtain ⟨q5, r5, z5⟩ := he5.rules; have y5 := he5.size'; (try simp at y5); (try (have v02 : wr.heap.size < w5.heap.size := by omega)); (try (have v12 : w4.heap.size < w5.heap.size := by omega))) | (go_at_call 26; (with_reducible refine (Of1_any 2 _ (by omega) (by omega)).mono ?_); rintro e w6 ⟨s7, A7, n7, c7, rfl, hm6, he6⟩; obtain ⟨q6, r6, z6⟩ := he6.rules; have y6 := he6.size'; (try simp at y6); (try (have v03 : wr.heap.size < w6.heap.size := by omega)); (try (have v13 : w4.heap.size < w6.heap.size := by omega)); (try (have v23 : w5.heap.size < w6.heap.size := by omega))) | (go_at_call 57; (with_reducible refine (iDiv1_any _ _ _ _ _ (2 : Int) _ hl3 (by omega) (by omega) (hm5.ext (by (repeat (first | with_reducible assumption | with_reducible exact Ext.refl _ | with_reducible refine Ext.drew ?_ | with_reducible refine Ext.drewN ?_ _ | with_reducible refine Ext.alloc ?_ _ | with_reducible refine Ext.set2 ?_ (by omega) _ _ | with_reducible refine Ext.setCell ?_ (by first | omega | (simp; done) | (simp; omega)) _ | with_reducible refine Ext.trans ?_ (by with_reducible assumption))))) (hm6.ext (by (repeat (first | with_reducible assumption | with_reducible exact Ext.refl _ | with_reducible refine Ext.drew ?_ | with_reducible refine Ext.drewN ?_ _ | with_reducible refine Ext.alloc ?_ _ | with_reducible refine Ext.set2 ?_ (by omega) _ _ | with_reducible refine Ext.setCell ?_ (by first | omega | (simp; done) | (simp; omega)) _ | with_reducible refine Ext.trans ?_ (by with_reducible assumption)))))).mono ?_); rw [HC2.out]; rintro e w7 ⟨s8, A8, n8, c8, rfl, hm7, he7⟩; obtain ⟨q7, r7, z7⟩ := he7.rules; have y7 := he7.size'; (try simp at y7); (try (have u0 : Blk w7 wr.heap.size 37 #[.bool false, .slice none 0 0] := by (repeat (first | with_reducible refine Blk.drew ?_ | with_reducible refine Blk.drewN ?_ _ | with_reducible exact Blk.newAt _ _ _ rfl | exact Blk.newAt _ _ _ rfl | with_reducible refine Blk.alloc ?_ _ | with_reducible refine Blk.ext ?_ (by with_reducible assumption))))); (try (have u0' := u0.two)); (try (have u1 : Blk w7 w4.heap.size 37 #[.bool false, .slice none 0 0] := by (repeat (first | with_reducible refine Blk.drew ?_ | with_reducible refine Blk.drewN ?_ _ | with_reducible exact Blk.newAt _ _ _ rfl | exact Blk.newAt _ _ _ rfl | with_reducible refine Blk.alloc ?_ _ | with_reducible refine Blk.ext ?_ (by with_reducible assumption))))); (try (have u1' := u1.two)); (try (have u2 : Blk w7 w5.heap.size 37 #[.bool false, .slice none 0 0] := by (repeat (first | with_reducible refine Blk.drew ?_ | with_reducible refine Blk.drewN ?_ _ | with_reducible exact Blk.newAt _ _ _ rfl | exact Blk.newAt _ _ _ rfl | with_reducible refine Blk.alloc ?_ _ | with_reducible refine Blk.ext ?_ (by with_reducible assumption))))); (try (have u2' := u2.two)); (try (have u3 : Blk w7 w6.heap.size 37 #[.bool false, .slice none 0 0] := by (repeat (first | with_reducible refine Blk.drew ?_ | with_reducible refine Blk.drewN ?_ _ | with_reducible exact Blk.newAt _ _ _ rfl | exact Blk.newAt _ _ _ rfl | with_reducible refine Blk.alloc ?_ _ | with_reducible refine Blk.ext ?_ (by with_reducible assumption))))); (try (have u3' := u3.two)); (try (have v04 : wr.heap.size < w7.heap.size := by omega)); (try (have v14 : w4.heap.size < w7.heap.size := by omega)); (try (have v24 : w5.heap.size < w7.heap.size := by omega)); (try (have v34 : w6.heap.size < w7.heap.size := by omega))))
      all_goals
        go_wp2_with fail
        go_meet
        go_light
        have hE7 : Ext wr w7 := by (repeat (first | with_reducible assumption | with_reducible exact Ext.refl _ | with_reducible refine Ext.drew ?_ | with_reducible refine Ext.drewN ?_ _ | with_reducible refine Ext.alloc ?_ _ | with_reducible refine Ext.set2 ?_ (by omega) _ _ | with_reducible refine Ext.setCell ?_ (by first | omega | (simp; done) | (simp; omega)) _ | with_reducible refine Ext.trans ?_ (by with_reducible assumption)))
        first
          | with_reducible exact sq_f1 hE7 hm7
          | ((with_reducible refine sq_f2 hE7 hm7 ?_ ?_); (clear hE7; (show Blk _ _ _ #[.bool false, .slice none 0 0]; (repeat (first | with_reducible refine Blk.drew ?_ | with_reducible exact Blk.newAt _ _ _ rfl | with_reducible exact Blk.newAt _ _ _ (World.size_alloc _ _) | with_reducible refine Blk.alloc ?_ _ | with_reducible refine Blk.ext ?_ (by with_reducible assumption))))); omega)
    case rest =>
      obtain ⟨tb, s6, A6, n6, c6, rfl, hT, ht, hEx, htb⟩ := hcut
      have hT2 := hT.two
      have hG2 := (hG.ext hEx).two
      have hl6 : (wordsOf (((sv + q) / 2 : Nat) : Int).natAbs).length ≤ 1000000 := by have := wordsOf_len1 (m := (((sv + q) / 2 : Nat) : Int).natAbs) (by omega); omega
      obtain ⟨m, hm⟩ : ∃ m, m = (sv + q) / 2 := ⟨_, rfl⟩
      rw [← hm] at ht hl6
      have HM := Lib.hid hm
      clear hm
      go_wp2_with fail
      refine (iCmp1_any _ _ _ _ (m : Int) (sv : Int) _ hl6 hl1 ht (hsv.ext hEx)).mono ?_
      rintro e wA ⟨rfl, heA⟩
      have hEA : Ext wr wA := hEx.trans heA
      by_cases hst : sv ≤ m
      · have hi : 0 ≤ icmp (m : Int) (sv : Int) := by
          rcases Nat.lt_or_eq_of_le hst with h | h
          · rw [icmp_nat_gt h]; omega
          · rw [icmp_nat_eq h.symm]; omega
        have hfin : sv * sv ≤ z := newton_stop hs0 (by rw [← HQ.out, ← HM.out]; exact hst)
        have HFIN := Lib.hid hfin
        have a1 := k1.ext hEA
        have a2 := k2.ext hEA
        have a3 := k3.ext hEA
        have aG := hG.ext hEA
        have hEwA : Ext w wA := hEwr.trans hEA
        have HKx : Hid (∀ w', Ext wA w' → w'.cell? ⟨w.heap.size, 0, none⟩ = some (.bool false) ∧ w'.cell? ⟨w.heap.size, 1, none⟩ = some (.slice A n c) ∧ w'.cell? ⟨G, 0, none⟩ = some (.bool s4) ∧ w'.cell? ⟨G, 1, none⟩ = some (.slice A4 n4 c4)) := fun w' h => ⟨(a1.ext h).cell 0, (a1.ext h).cell 1, (aG.ext h).cell 0, (aG.ext h).cell 1⟩
        have d1 : ¬ G = w.heap.size + 1 := by omega
        have d2 : ¬ G = w.heap.size + 1 + 1 := by omega
        have d3 : ¬ w.heap.size + 1 = G := by omega
        have d4 : ¬ w.heap.size + 1 + 1 = G := by omega
        have d5 : ¬ w.heap.size = w.heap.size + 1 := by omega
        have d6 : ¬ w.heap.size = w.heap.size + 1 + 1 := by omega
        have d7 : ¬ w.heap.size + 1 = w.heap.size := by omega
        have d8 : ¬ w.heap.size + 1 + 1 = w.heap.size := by omega
        have d9 : w.heap.size + 1 < wA.heap.size := a2.lt
        have d10 : w.heap.size + 1 + 1 < wA.heap.size := a3.lt
        have hsq : (((sv : Nat) : Int) * ((sv : Nat) : Int)) = ((sv * sv : Nat) : Int) := by push_cast; rfl
        have HSQ := Lib.hid hsq
        have hl7 : (wordsOf ((sv * sv : Nat) : Int).natAbs).length ≤ 1000000 := by have := wordsOf_len1 (m := ((sv * sv : Nat) : Int).natAbs) (by omega); omega
        have hl8 : (wordsOf ((z : Nat) : Int).natAbs).length ≤ 1000000 := by have := wordsOf_len1 (m := ((z : Nat) : Int).natAbs) (by omega); omega
        have hsvA := hsv.ext hEA
        clear hsq hfin hst hT hT2 hG2 HK HK2
        go_upto_region 8 with fail
        go_region_held3 (fun w' => w'.cell? ⟨w.heap.size, 0, none⟩ = some (.bool false) ∧ w'.cell? ⟨w.heap.size, 1, none⟩ = some (.slice A n c) ∧ w'.cell? ⟨G, 0, none⟩ = some (.bool s4) ∧ w'.cell? ⟨G, 1, none⟩ = some (.slice A4 n4 c4))
          (first | (refine HKx.out _ ?_; (repeat (first | with_reducible assumption | with_reducible exact Ext.refl _ | with_reducible refine Ext.drew ?_ | with_reducible refine Ext.drewN ?_ _ | with_reducible refine Ext.alloc ?_ _ | with_reducible refine Ext.set2 ?_ (by omega) _ _ | with_reducible refine Ext.setCell ?_ (by first | omega | (simp; done) | (simp; omega)) _ | with_reducible refine Ext.trans ?_ (by with_reducible assumption))); done) | go_keep)
          (first | (go_at_call 61; (with_reducible refine (iMul1_any _ _ _ _ (sv : Int) (sv : Int) _ hl1 hl1 (hsvA.ext (by (repeat (first | with_reducible assumption | with_reducible exact Ext.refl _ | with_reducible refine Ext.drew ?_ | with_reducible refine Ext.drewN ?_ _ | with_reducible refine Ext.alloc ?_ _ | with_reducible refine Ext.set2 ?_ (by omega) _ _ | with_reducible refine Ext.setCell ?_ (by first | omega | (simp; done) | (simp; omega)) _ | with_reducible refine Ext.trans ?_ (by with_reducible assumption))))) (hsvA.ext (by (repeat (first | with_reducible assumption | with_reducible exact Ext.refl _ | with_reducible refine Ext.drew ?_ | with_reducible refine Ext.drewN ?_ _ | with_reducible refine Ext.alloc ?_ _ | with_reducible refine Ext.set2 ?_ (by omega) _ _ | with_reducible refine Ext.setCell ?_ (by first | omega | (simp; done) | (simp; omega)) _ | with_reducible refine Ext.trans ?_ (by with_reducible assumption)))))).mono ?_); rw [HSQ.out]; rintro e w4 ⟨s5, A5, n5, c5, rfl, hm4, he4⟩) | (go_at_call 60; (with_reducible refine (iSub1_any _ _ _ _ (z : Int) _ _ hl8 hl7 (HI.out.ext (by (repeat (first | with_reducible assumption | with_reducible exact Ext.refl _ | with_reducible refine Ext.drew ?_ | with_reducible refine Ext.drewN ?_ _ | with_reducible refine Ext.alloc ?_ _ | with_reducible refine Ext.set2 ?_ (by omega) _ _ | with_reducible refine Ext.setCell ?_ (by first | omega | (simp; done) | (simp; omega)) _ | with_reducible refine Ext.trans ?_ (by with_reducible assumption))))) hm4).mono ?_); rintro e w5 ⟨s8, A8, n8, c8, rfl, hm5, he5⟩; have b2 := (a2.ext (show Ext wA w5 by (repeat (first | with_reducible assumption | with_reducible exact Ext.refl _ | with_reducible refine Ext.drew ?_ | with_reducible refine Ext.drewN ?_ _ | with_reducible refine Ext.alloc ?_ _ | with_reducible refine Ext.set2 ?_ (by omega) _ _ | with_reducible refine Ext.setCell ?_ (by first | omega | (simp; done) | (simp; omega)) _ | with_reducible refine Ext.trans ?_ (by with_reducible assumption))))).two; have b3 := (a3.ext (show Ext wA w5 by (repeat (first | with_reducible assumption | with_reducible exact Ext.refl _ | with_reducible refine Ext.drew ?_ | with_reducible refine Ext.drewN ?_ _ | with_reducible refine Ext.alloc ?_ _ | with_reducible refine Ext.set2 ?_ (by omega) _ _ | with_reducible refine Ext.setCell ?_ (by first | omega | (simp; done) | (simp; omega)) _ | with_reducible refine Ext.trans ?_ (by with_reducible assumption))))).two))
        go_wp2
        have hE5 : Ext wA w5 := by (repeat (first | with_reducible assumption | with_reducible exact Ext.refl _ | with_reducible refine Ext.drew ?_ | with_reducible refine Ext.drewN ?_ _ | with_reducible refine Ext.alloc ?_ _ | with_reducible refine Ext.set2 ?_ (by omega) _ _ | with_reducible refine Ext.setCell ?_ (by first | omega | (simp; done) | (simp; omega)) _ | with_reducible refine Ext.trans ?_ (by with_reducible assumption)))
        refine bodyPost_ret (v := .tuple #[.agg #[.bool s4, .slice A4 n4 c4], .agg #[.bool s8, .slice A8 n8 c8], .int .i64 0]) (by simp [results, Tryz.results25, go_sem, b2, b3]) rfl ?_
        refine ⟨sv, HFIN.out, hzs, ?_⟩
        rw [HSQ.out]
        have t2 := (a2.ext hE5).type
        have t3 := (a3.ext hE5).type
        exact ⟨_, _, _, _, _, _, _, _, rfl, ((hsvA.ext hE5).set2 t2 (by decide) _ _).set2 ((t3.setCell _ _).setCell _ _) (by decide) _ _, (hm5.set2 t2 (by decide) _ _).set2 ((t3.setCell _ _).setCell _ _) (by decide) _ _, ((hEwA.trans hE5).set2 (by omega) _ _).set2 (by omega) _ _⟩
      · have hi : ¬ 0 ≤ icmp (m : Int) (sv : Int) := by rw [icmp_nat_lt (by omega)]; omega
        have hT3 := (hT.ext heA).two
        have hG3 := (hG.ext hEA).two
        have lT3 := (hT.ext heA).lt
        have hpm : 0 < m := by
          have e1 := HQ.out
          have e2 := HM.out
          by_cases h : sv = 1
          · subst h; rw [Nat.div_one] at e1; omega
          · omega
        have hzm := Lib.hid (newton_step hs0 hzs)
        clear hT2 hG2
        go_wp2
        go_roundg m
        case measure => omega
        case rel =>
          refine ⟨m, s6, A6, n6, c6, (hG.ext hEA).set2 _ _, (ht.ext heA).set2 (hG.ext hEA).type (by decide) _ _, hpm, ?_, Nat.le_refl _, by omega, (hEr.trans hEA).set2 (by omega) _ _⟩
          have e1 := HQ.out
          have e2 := HM.out
          rw [e2, e1]
          exact hzm.out

end Go.Proofs.YtddgjlfniabehaaGreatDoor
