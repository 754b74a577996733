/-
  The program's integers: differences, quotients by one word, greatest common divisors.
-/
import Derived.Test.YtekipapkcgoieaaGreatDoorJ02
import Derived.Deep.DeepCutAuto
import Derived.Deep.Light
set_option linter.unusedVariables false
set_option linter.unusedSimpArgs false

/- The program's integers: differences, quotients by one word, greatest common divisors. -/
namespace Go.Proofs.YtekipapkcgoieaaGreatDoor
open Go.RowKit
attribute [local go_sem ↓] Go.wp_at_zero Go.wp_at_succ

set_option maxRecDepth 100000 in
set_option maxHeartbeats 1000000 in
theorem iSub_any (b1 v1 b2 v2 : Value) (x y : Int) (w : World) (hx : (wordsOf x.natAbs).length ≤ 1000000) (hy : (wordsOf y.natAbs).length ≤ 1000000) (h1 : IsInt w b1 v1 x) (h2 : IsInt w b2 v2 y) :
    Calls Tryz.prog 175 #[.agg #[b1, v1], .agg #[b2, v2]] w (RInt w (x - y)) := by
  obtain ⟨s, A, n, c, rfl, rfl, -, -, -⟩ := h1.form
  obtain ⟨s', A', n', c', rfl, rfl, -, -, -⟩ := h2.form
  have H1 := Lib.hid h1
  have H2 := Lib.hid h2
  have hyn : (wordsOf (-y).natAbs).length ≤ 1000000 := by rw [Int.natAbs_neg]; exact hy
  clear h1 h2
  go_enter Tryz.func175, Tryz.ntmps175
  go_wp2_with fail
  obtain ⟨W, hW⟩ : ∃ W : World, W = ((w.alloc (.cells #[.bool s, .slice A n c] 37)).alloc (.cells #[.bool s', .slice A' n' c'] 37)).alloc (.cells #[.bool false, .slice none 0 0] 37) := ⟨_, rfl⟩
  rw [← hW]
  have hE : Ext w W := by rw [hW]; exact (((Ext.refl w).alloc _).alloc _).alloc _
  have hB1 : Blk W (w.heap.size) 37 #[.bool s, .slice A n c] := by rw [hW]; exact ((Blk.newAt _ _ _ (by simp)).alloc _).alloc _
  have hB2 : Blk W (w.heap.size + 1) 37 #[.bool s', .slice A' n' c'] := by rw [hW]; exact (Blk.newAt _ _ _ (by simp)).alloc _
  have hB3 : Blk W (w.heap.size + 1 + 1) 37 #[.bool false, .slice none 0 0] := by rw [hW]; exact Blk.newAt _ _ _ (by simp)
  clear hW
  have HK : Hid (∀ w', Ext W w' → Ext w w' ∧ w'.cell? ⟨w.heap.size, 0, none⟩ = some (.bool s) ∧ w'.cell? ⟨w.heap.size, 1, none⟩ = some (.slice A n c) ∧ w'.cell? ⟨w.heap.size + 1, 0, none⟩ = some (.bool s') ∧ w'.cell? ⟨w.heap.size + 1, 1, none⟩ = some (.slice A' n' c')) := fun w' h => ⟨hE.trans h, (hB1.ext h).cell 0, (hB1.ext h).cell 1, (hB2.ext h).cell 0, (hB2.ext h).cell 1⟩
  have HK2 : Hid (∀ w' w'', w'.grownBy w'' (some (w.heap.size + 1 + 1)) → Ext W w' → Ext w w'' ∧ w''.cell? ⟨w.heap.size, 0, none⟩ = some (.bool s) ∧ w''.cell? ⟨w.heap.size, 1, none⟩ = some (.slice A n c) ∧ w''.cell? ⟨w.heap.size + 1, 0, none⟩ = some (.bool s') ∧ w''.cell? ⟨w.heap.size + 1, 1, none⟩ = some (.slice A' n' c')) := fun w' w'' hg h => ⟨(hE.trans h).grown hg (by intro k hk; injection hk with hk; omega), (hg.cell_far ⟨w.heap.size, 0, none⟩ (hB1.ext h).lt (by first | (simp; done) | (simp; omega))).trans ((hB1.ext h).cell 0), (hg.cell_far ⟨w.heap.size, 1, none⟩ (hB1.ext h).lt (by first | (simp; done) | (simp; omega))).trans ((hB1.ext h).cell 1), (hg.cell_far ⟨w.heap.size + 1, 0, none⟩ (hB2.ext h).lt (by first | (simp; done) | (simp; omega))).trans ((hB2.ext h).cell 0), (hg.cell_far ⟨w.heap.size + 1, 1, none⟩ (hB2.ext h).lt (by first | (simp; done) | (simp; omega))).trans ((hB2.ext h).cell 1)⟩
  go_region_held3 (fun w' => Ext w w' ∧ w'.cell? ⟨w.heap.size, 0, none⟩ = some (.bool s) ∧ w'.cell? ⟨w.heap.size, 1, none⟩ = some (.slice A n c) ∧ w'.cell? ⟨w.heap.size + 1, 0, none⟩ = some (.bool s') ∧ w'.cell? ⟨w.heap.size + 1, 1, none⟩ = some (.slice A' n' c'))
    (first | (refine HK.out _ ?_; (repeat (first | with_reducible assumption | with_reducible exact Ext.refl _ | with_reducible refine Ext.drew ?_ | with_reducible refine Ext.drewN ?_ _ | with_reducible refine Ext.alloc ?_ _ | with_reducible refine Ext.set2 ?_ (by omega) _ _ | with_reducible refine Ext.setCell ?_ (by first | omega | (simp; done) | (simp; omega)) _ | with_reducible refine Ext.trans ?_ (by with_reducible assumption))); done) | exact HK2.out _ _ (by (repeat (first | apply grow_set | exact World.grownBy.refl _ _))) (by (repeat (first | with_reducible assumption | with_reducible exact Ext.refl _ | with_reducible refine Ext.drew ?_ | with_reducible refine Ext.drewN ?_ _ | with_reducible refine Ext.alloc ?_ _ | with_reducible refine Ext.set2 ?_ (by omega) _ _ | with_reducible refine Ext.setCell ?_ (by first | omega | (simp; done) | (simp; omega)) _ | with_reducible refine Ext.trans ?_ (by with_reducible assumption)))))
    (first | (go_at_call 213; (with_reducible refine (iNeg_any _ _ _ _ hy (H2.out.ext (by (repeat (first | with_reducible assumption | with_reducible exact Ext.refl _ | with_reducible refine Ext.drew ?_ | with_reducible refine Ext.drewN ?_ _ | with_reducible refine Ext.alloc ?_ _ | with_reducible refine Ext.set2 ?_ (by omega) _ _ | with_reducible refine Ext.setCell ?_ (by first | omega | (simp; done) | (simp; omega)) _ | with_reducible refine Ext.trans ?_ (by with_reducible assumption)))))).mono ?_); rintro e w2 ⟨s2, A2, n2, c2, rfl, hm, he1⟩) | (go_at_call 77; (with_reducible refine (iAdd_any _ _ _ _ _ _ _ hx hyn (H1.out.ext (by (repeat (first | with_reducible assumption | with_reducible exact Ext.refl _ | with_reducible refine Ext.drew ?_ | with_reducible refine Ext.drewN ?_ _ | with_reducible refine Ext.alloc ?_ _ | with_reducible refine Ext.set2 ?_ (by omega) _ _ | with_reducible refine Ext.setCell ?_ (by first | omega | (simp; done) | (simp; omega)) _ | with_reducible refine Ext.trans ?_ (by with_reducible assumption))))) hm).mono ?_); rintro e w3 ⟨s3, A3, n3, c3, rfl, hm3, he3⟩; have hq3 := (hB3.ext (show Ext W w3 by (repeat (first | with_reducible assumption | with_reducible exact Ext.refl _ | with_reducible refine Ext.drew ?_ | with_reducible refine Ext.drewN ?_ _ | with_reducible refine Ext.alloc ?_ _ | with_reducible refine Ext.set2 ?_ (by omega) _ _ | with_reducible refine Ext.setCell ?_ (by first | omega | (simp; done) | (simp; omega)) _ | with_reducible refine Ext.trans ?_ (by with_reducible assumption))))).two))
  go_wp2
  refine bodyPost_ret (v := .agg #[.bool s3, .slice A3 n3 c3]) (by simp [results, Tryz.results175, go_sem, hq3]) rfl ?_
  have hEE : Ext W w3 := by (repeat (first | with_reducible assumption | with_reducible exact Ext.refl _ | with_reducible refine Ext.drew ?_ | with_reducible refine Ext.drewN ?_ _ | with_reducible refine Ext.alloc ?_ _ | with_reducible refine Ext.set2 ?_ (by omega) _ _ | with_reducible refine Ext.setCell ?_ (by first | omega | (simp; done) | (simp; omega)) _ | with_reducible refine Ext.trans ?_ (by with_reducible assumption)))
  rw [Int.sub_eq_add_neg]
  exact RInt.close hE hEE hB3 (by omega) hm3

theorem sign_bd (y : Int) : -1 ≤ y.sign ∧ y.sign ≤ 1 := by
  rcases Int.lt_trichotomy y 0 with h | h | h
  · rw [Int.sign_eq_neg_one_of_neg h]; omega
  · rw [h]; decide
  · rw [Int.sign_eq_one_of_pos h]; omega
theorem Of_any (z : Int) (w : World) (h1 : -9223372036854775807 ≤ z) (h2 : z ≤ 9223372036854775807) : Calls Tryz.prog 45 #[.int .i64 z] w (RInt w z) := by
  by_cases h : z < 0
  · obtain ⟨n, rfl⟩ : ∃ n : Nat, z = -(n : Int) := ⟨z.natAbs, by omega⟩
    exact Of_neg n w (by omega) (by omega)
  · obtain ⟨n, rfl⟩ := Int.eq_ofNat_of_zero_le (show 0 ≤ z by omega)
    exact Of_pos n w (by omega)
theorem Of1_any (z : Int) (w : World) (h1 : -9223372036854775807 ≤ z) (h2 : z ≤ 9223372036854775807) : Calls Tryz.prog 12 #[.int .i64 z] w (RInt w z) := by
  by_cases h : z < 0
  · obtain ⟨n, rfl⟩ : ∃ n : Nat, z = -(n : Int) := ⟨z.natAbs, by omega⟩
    exact Of1_neg n w (by omega) (by omega)
  · obtain ⟨n, rfl⟩ := Int.eq_ofNat_of_zero_le (show 0 ≤ z by omega)
    exact Of1_pos n w (by omega)

theorem ediv_unique {x y q r : Int} (hy : y ≠ 0) (h : x = y * q + r) (h0 : 0 ≤ r) (h1 : r < y.natAbs) : q = x / y ∧ r = x % y := by
  have hr : x % y = r := by
    rw [h, Int.mul_add_emod_self_left]
    rcases Int.lt_or_gt_of_ne hy with h2 | h2
    · rw [← Int.emod_neg]; exact Int.emod_eq_of_lt h0 (by omega)
    · exact Int.emod_eq_of_lt h0 (by omega)
  have h3 := Int.mul_ediv_add_emod x y
  rw [hr] at h3
  have h4 : y * (x / y) = y * q := by omega
  exact ⟨(Int.eq_of_mul_eq_mul_left hy h4).symm, hr.symm⟩
theorem divmod_id (x y : Int) : x = y * signed (decide (x < 0) != decide (y < 0)) (x.natAbs / y.natAbs) + signed (decide (x < 0)) (x.natAbs % y.natAbs) := by
  have h := Nat.div_add_mod x.natAbs y.natAbs
  have h2 : ((y.natAbs : Nat) : Int) * ((x.natAbs / y.natAbs : Nat) : Int) + ((x.natAbs % y.natAbs : Nat) : Int) = (x.natAbs : Int) := by exact_mod_cast h
  generalize ((x.natAbs / y.natAbs : Nat)) = Q at *
  generalize ((x.natAbs % y.natAbs : Nat)) = R at *
  unfold signed
  by_cases h3 : x < 0 <;> by_cases h4 : y < 0
  · simp only [h3, h4, decide_true, bne_self_eq_false, Bool.false_eq_true, if_false, if_true]
    rw [show ((y.natAbs : Nat) : Int) = -y from by omega, show ((x.natAbs : Nat) : Int) = -x from by omega, Int.neg_mul] at h2
    omega
  · simp only [h3, h4, decide_true, decide_false, if_true, show (true != false) = true from rfl]
    rw [show ((y.natAbs : Nat) : Int) = y from by omega, show ((x.natAbs : Nat) : Int) = -x from by omega] at h2
    rw [Int.mul_neg]; omega
  · simp only [h3, h4, decide_true, decide_false, if_true, if_false, Bool.false_eq_true, show (false != true) = true from rfl]
    rw [show ((y.natAbs : Nat) : Int) = -y from by omega, show ((x.natAbs : Nat) : Int) = x from by omega, Int.neg_mul] at h2
    rw [Int.mul_neg]; omega
  · simp only [h3, h4, decide_false, bne_self_eq_false, Bool.false_eq_true, if_false]
    rw [show ((y.natAbs : Nat) : Int) = y from by omega, show ((x.natAbs : Nat) : Int) = x from by omega] at h2
    omega
theorem divmod_pos (x y : Int) (hy : y ≠ 0) (h : 0 ≤ signed (decide (x < 0)) (x.natAbs % y.natAbs)) :
    signed (decide (x < 0) != decide (y < 0)) (x.natAbs / y.natAbs) = x / y ∧ signed (decide (x < 0)) (x.natAbs % y.natAbs) = x % y := by
  have h1 := Nat.mod_lt x.natAbs (show y.natAbs > 0 by omega)
  exact ediv_unique hy (divmod_id x y) h (by unfold signed at h ⊢; split at h <;> omega)
theorem divmod_neg (x y : Int) (hy : y ≠ 0) (h : signed (decide (x < 0)) (x.natAbs % y.natAbs) < 0) :
    signed (decide (x < 0) != decide (y < 0)) (x.natAbs / y.natAbs) - y.sign = x / y ∧ signed (decide (x < 0)) (x.natAbs % y.natAbs) + (y.natAbs : Int) = x % y := by
  have h1 := Nat.mod_lt x.natAbs (show y.natAbs > 0 by omega)
  have h2 := divmod_id x y
  refine ediv_unique hy ?_ ?_ ?_
  · rw [Int.mul_sub, Int.mul_sign_self]; omega
  · unfold signed at h ⊢; split at h <;> omega
  · omega

def RDM (w : World) (q r : Int) (e : Ending) (w' : World) : Prop := ∃ (s : Bool) (A : Option Addr) (n c : Nat) (s' : Bool) (A' : Option Addr) (n' c' : Nat),
  e = .returned (.tuple #[.agg #[.bool s, .slice A n c], .agg #[.bool s', .slice A' n' c'], .int .i64 0]) ∧ IsInt w' (.bool s) (.slice A n c) q ∧ IsInt w' (.bool s') (.slice A' n' c') r ∧ Ext w w'

def Z2 : Array Value := #[.bool false, .slice none 0 0]
/-- What the two first statements leave: two new variables that hold two integers. -/
def DMP (W : World) (z2 z3 : Int) (s9 s10 : Value) (wx : World) : Prop := ∃ (qb rb : Nat) (s2 : Bool) (A2 : Option Addr) (n2 c2 : Nat) (s3 : Bool) (A3 : Option Addr) (n3 c3 : Nat), s9 = .pointer (some ⟨qb, 0, none⟩) ∧ s10 = .pointer (some ⟨rb, 0, none⟩) ∧
    Blk wx qb 37 #[.bool s2, .slice A2 n2 c2] ∧ Blk wx rb 37 #[.bool s3, .slice A3 n3 c3] ∧ IsInt wx (.bool s2) (.slice A2 n2 c2) z2 ∧
    IsInt wx (.bool s3) (.slice A3 n3 c3) z3 ∧ Ext W wx ∧ W.heap.size ≤ qb ∧ W.heap.size ≤ rb ∧ qb ≠ rb
section
variable {W w3 : World} {s2 s3 : Bool} {A2 A3 : Option Addr} {n2 c2 n3 c3 : Nat} {z2 z3 : Int} {qb rb : Nat} (hE : Ext W w3) (h2 : IsInt w3 (.bool s2) (.slice A2 n2 c2) z2) (h3 : IsInt w3 (.bool s3) (.slice A3 n3 c3) z3)
include hE h2 h3
theorem dm_f1 : DMP W z2 z3 (.pointer (some ⟨w3.heap.size, 0, none⟩)) (.pointer (some ⟨w3.heap.size + 1, 0, none⟩)) ((w3.alloc (.cells #[.bool s2, .slice A2 n2 c2] 37)).alloc (.cells #[.bool s3, .slice A3 n3 c3] 37)) :=
  ⟨_, _, _, _, _, _, _, _, _, _, rfl, rfl, (Blk.newAt _ _ _ rfl).alloc _, Blk.newAt _ _ _ (by simp), (h2.alloc _).alloc _, (h3.alloc _).alloc _, (hE.alloc _).alloc _, hE.size', by have := hE.size'; omega, by omega⟩
theorem dm_f2 : DMP W z2 z3 (.pointer (some ⟨w3.heap.size + 1, 0, none⟩)) (.pointer (some ⟨w3.heap.size, 0, none⟩)) ((w3.alloc (.cells #[.bool s3, .slice A3 n3 c3] 37)).alloc (.cells #[.bool s2, .slice A2 n2 c2] 37)) :=
  ⟨_, _, _, _, _, _, _, _, _, _, rfl, rfl, Blk.newAt _ _ _ (by simp), (Blk.newAt _ _ _ rfl).alloc _, (h2.alloc _).alloc _, (h3.alloc _).alloc _, (hE.alloc _).alloc _, by have := hE.size'; omega, hE.size', by omega⟩
theorem dm_f3 (hq : Blk w3 qb 37 Z2) (hqb : W.heap.size ≤ qb) : DMP W z2 z3 (.pointer (some ⟨qb, 0, none⟩)) (.pointer (some ⟨w3.heap.size, 0, none⟩)) (((w3.setCell ⟨qb, 0, none⟩ (.bool s2)).setCell ⟨qb, 1, none⟩ (.slice A2 n2 c2)).alloc (.cells #[.bool s3, .slice A3 n3 c3] 37)) :=
  ⟨_, _, _, _, _, _, _, _, _, _, rfl, rfl, (hq.set2 _ _).alloc _, Blk.newAt _ _ _ (by simp [World.setCell]), (h2.set2 hq.type (by decide) _ _).alloc _, (h3.set2 hq.type (by decide) _ _).alloc _, (hE.set2 hqb _ _).alloc _, hqb, hE.size', by have := hq.lt; omega⟩
theorem dm_f4 (hq : Blk w3 rb 37 Z2) (hqb : W.heap.size ≤ rb) : DMP W z2 z3 (.pointer (some ⟨w3.heap.size, 0, none⟩)) (.pointer (some ⟨rb, 0, none⟩)) (((w3.setCell ⟨rb, 0, none⟩ (.bool s3)).setCell ⟨rb, 1, none⟩ (.slice A3 n3 c3)).alloc (.cells #[.bool s2, .slice A2 n2 c2] 37)) :=
  ⟨_, _, _, _, _, _, _, _, _, _, rfl, rfl, Blk.newAt _ _ _ (by simp [World.setCell]), (hq.set2 _ _).alloc _, (h2.set2 hq.type (by decide) _ _).alloc _, (h3.set2 hq.type (by decide) _ _).alloc _, (hE.set2 hqb _ _).alloc _, hE.size', hqb, by have := hq.lt; omega⟩
theorem dm_f5 (hq : Blk w3 qb 37 Z2) (hr : Blk w3 rb 37 Z2) (hqb : W.heap.size ≤ qb) (hrb : W.heap.size ≤ rb) (hne : qb ≠ rb) : DMP W z2 z3 (.pointer (some ⟨qb, 0, none⟩)) (.pointer (some ⟨rb, 0, none⟩)) ((((w3.setCell ⟨qb, 0, none⟩ (.bool s2)).setCell ⟨qb, 1, none⟩ (.slice A2 n2 c2)).setCell ⟨rb, 0, none⟩ (.bool s3)).setCell ⟨rb, 1, none⟩ (.slice A3 n3 c3)) :=
  ⟨_, _, _, _, _, _, _, _, _, _, rfl, rfl, (hq.set2 _ _).far2 hne _ _, ((hr.far2 (Ne.symm hne) _ _).set2 _ _), (h2.set2 hq.type (by decide) _ _).set2 ((hr.type.setCell _ _).setCell _ _) (by decide) _ _, (h3.set2 hq.type (by decide) _ _).set2 ((hr.type.setCell _ _).setCell _ _) (by decide) _ _, (hE.set2 hqb _ _).set2 hrb _ _, hqb, hrb, hne⟩
end

set_option maxRecDepth 100000 in
set_option maxHeartbeats 8000000 in
theorem iDivMod_any (b1 v1 b2 v2 : Value) (x y : Int) (w : World) (hx : (wordsOf x.natAbs).length ≤ 1000) (hy : (wordsOf y.natAbs).length ≤ 1000) (hy0 : y ≠ 0) (hs : x.natAbs < y.natAbs ∨ y.natAbs < 4294967296) (h1 : IsInt w b1 v1 x) (h2 : IsInt w b2 v2 y) :
    Calls Tryz.prog 137 #[.agg #[b1, v1], .agg #[b2, v2]] w (RDM w (x / y) (x % y)) := by
  obtain ⟨s, A, n, c, rfl, rfl, es, en, hN⟩ := h1.form
  obtain ⟨s', A', n', c', rfl, rfl, es', en', hN'⟩ := h2.form
  have H1 := Lib.hid h1
  have H2 := Lib.hid h2
  have HN1 := Lib.hid hN
  have HN2 := Lib.hid hN'
  have ES := Lib.hid es
  have ES' := Lib.hid es'
  have hn0 : ((n' : Int) == 0) = false := by rw [beq_eq_false_iff_ne]; have := @wordsOf_len0 y.natAbs; omega
  clear h1 h2 hN hN' es es' en en'
  go_enter Tryz.func137, Tryz.ntmps137
  go_wp2_with fail
  obtain ⟨W, hW⟩ : ∃ W : World, W = (((w.alloc (.cells #[.bool s, .slice A n c] 37)).alloc (.cells #[.bool s', .slice A' n' c'] 37)).alloc (.cells #[.bool false, .slice none 0 0] 37)).alloc (.cells #[.bool false, .slice none 0 0] 37) := ⟨_, rfl⟩
  rw [← hW]
  have hE : Ext w W := by rw [hW]; exact ((((Ext.refl w).alloc _).alloc _).alloc _).alloc _
  have hB1 : Blk W (w.heap.size) 37 #[.bool s, .slice A n c] := by rw [hW]; exact (((Blk.newAt _ _ _ (by simp)).alloc _).alloc _).alloc _
  have hB2 : Blk W (w.heap.size + 1) 37 #[.bool s', .slice A' n' c'] := by rw [hW]; exact ((Blk.newAt _ _ _ (by simp)).alloc _).alloc _
  have hB3 : Blk W (w.heap.size + 1 + 1) 37 #[.bool false, .slice none 0 0] := by rw [hW]; exact (Blk.newAt _ _ _ (by simp)).alloc _
  have hB4 : Blk W (w.heap.size + 1 + 1 + 1) 37 #[.bool false, .slice none 0 0] := by rw [hW]; exact Blk.newAt _ _ _ (by simp)
  clear hW
  have HK : Hid (∀ w', Ext W w' → Ext w w' ∧ w'.cell? ⟨w.heap.size, 0, none⟩ = some (.bool s) ∧ w'.cell? ⟨w.heap.size, 1, none⟩ = some (.slice A n c) ∧ w'.cell? ⟨w.heap.size + 1, 0, none⟩ = some (.bool s') ∧ w'.cell? ⟨w.heap.size + 1, 1, none⟩ = some (.slice A' n' c')) := fun w' h => ⟨hE.trans h, (hB1.ext h).cell 0, (hB1.ext h).cell 1, (hB2.ext h).cell 0, (hB2.ext h).cell 1⟩
  have HK2 : Hid (∀ w' w'', w'.grownBy w'' (some (w.heap.size + 1 + 1 + 1)) → Ext W w' → Ext w w'' ∧ w''.cell? ⟨w.heap.size, 0, none⟩ = some (.bool s) ∧ w''.cell? ⟨w.heap.size, 1, none⟩ = some (.slice A n c) ∧ w''.cell? ⟨w.heap.size + 1, 0, none⟩ = some (.bool s') ∧ w''.cell? ⟨w.heap.size + 1, 1, none⟩ = some (.slice A' n' c')) := fun w' w'' hg h => ⟨(hE.trans h).grown hg (by intro k hk; injection hk with hk; omega), (hg.cell_far ⟨w.heap.size, 0, none⟩ (hB1.ext h).lt (by first | (simp; done) | (simp; omega))).trans ((hB1.ext h).cell 0), (hg.cell_far ⟨w.heap.size, 1, none⟩ (hB1.ext h).lt (by first | (simp; done) | (simp; omega))).trans ((hB1.ext h).cell 1), (hg.cell_far ⟨w.heap.size + 1, 0, none⟩ (hB2.ext h).lt (by first | (simp; done) | (simp; omega))).trans ((hB2.ext h).cell 0), (hg.cell_far ⟨w.heap.size + 1, 1, none⟩ (hB2.ext h).lt (by first | (simp; done) | (simp; omega))).trans ((hB2.ext h).cell 1)⟩
  refine (ndiv_any _ _ _ _ _ (by omega) (by omega) (by omega) hs (HN1.out.ext hE) (HN2.out.ext hE)).mono ?_
  rintro e w1 ⟨Aq, nq, cq, Ar, nr, cr, rfl, hq, hr, he1⟩
  go_wp2_with fail
  have hlq := wordsOf_len_mono (Nat.div_le_self x.natAbs y.natAbs)
  have hlr := wordsOf_len_mono (Nat.mod_le x.natAbs y.natAbs)
  go_upto_region 4 with fail
  have y1 := he1.size'
  go_cut [9, 10] (fun s9 s10 wx => DMP W (signed (!(s == s')) (x.natAbs / y.natAbs)) (signed s (x.natAbs % y.natAbs)) s9 s10 wx)
  case first =>
    go_region_held3 (fun w' => Ext w w' ∧ w'.cell? ⟨w.heap.size, 0, none⟩ = some (.bool s) ∧ w'.cell? ⟨w.heap.size, 1, none⟩ = some (.slice A n c) ∧ w'.cell? ⟨w.heap.size + 1, 0, none⟩ = some (.bool s') ∧ w'.cell? ⟨w.heap.size + 1, 1, none⟩ = some (.slice A' n' c'))
      (first | (refine HK.out _ ?_; (repeat (first | with_reducible assumption | with_reducible exact Ext.refl _ | with_reducible refine Ext.drew ?_ | with_reducible refine Ext.drewN ?_ _ | with_reducible refine Ext.alloc ?_ _ | with_reducible refine Ext.set2 ?_ (by omega) _ _ | with_reducible refine Ext.setCell ?_ (by first | omega | (simp; done) | (simp; omega)) _ | with_reducible refine Ext.trans ?_ (by with_reducible assumption))); done) | exact HK2.out _ _ (by (repeat (first | apply grow_set | exact World.grownBy.refl _ _))) (by (repeat (first | with_reducible assumption | with_reducible exact Ext.refl _ | with_reducible refine Ext.drew ?_ | with_reducible refine Ext.drewN ?_ _ | with_reducible refine Ext.alloc ?_ _ | with_reducible refine Ext.set2 ?_ (by omega) _ _ | with_reducible refine Ext.setCell ?_ (by first | omega | (simp; done) | (simp; omega)) _ | with_reducible refine Ext.trans ?_ (by with_reducible assumption)))))
      (first | (go_at_call 95; (with_reducible refine (of_nat _ _ _ _ (by omega) (hq.ext (by (repeat (first | with_reducible assumption | with_reducible exact Ext.refl _ | with_reducible refine Ext.drew ?_ | with_reducible refine Ext.drewN ?_ _ | with_reducible refine Ext.alloc ?_ _ | with_reducible refine Ext.set2 ?_ (by omega) _ _ | with_reducible refine Ext.setCell ?_ (by first | omega | (simp; done) | (simp; omega)) _ | with_reducible refine Ext.trans ?_ (by with_reducible assumption)))))).mono ?_); rintro e w2 ⟨s2, A2, n2, c2, rfl, hm2, he2⟩; obtain ⟨q2, r2, z2⟩ := he2.rules; have y2 := he2.size'; try simp at y2; try (have v2 : w1.heap.size < w2.heap.size := by omega); try (have v2' : w1.heap.size + 1 < w2.heap.size := by omega)) | (go_at_call 95; (with_reducible refine (of_nat _ _ _ _ (by omega) (hr.ext (by (repeat (first | with_reducible assumption | with_reducible exact Ext.refl _ | with_reducible refine Ext.drew ?_ | with_reducible refine Ext.drewN ?_ _ | with_reducible refine Ext.alloc ?_ _ | with_reducible refine Ext.set2 ?_ (by omega) _ _ | with_reducible refine Ext.setCell ?_ (by first | omega | (simp; done) | (simp; omega)) _ | with_reducible refine Ext.trans ?_ (by with_reducible assumption)))))).mono ?_); rintro e w3 ⟨s3, A3, n3, c3, rfl, hm3, he3⟩; obtain ⟨q3, r3, z3⟩ := he3.rules; have hm2' := hm2.ext (show Ext w2 w3 by (repeat (first | with_reducible assumption | with_reducible exact Ext.refl _ | with_reducible refine Ext.drew ?_ | with_reducible refine Ext.drewN ?_ _ | with_reducible refine Ext.alloc ?_ _ | with_reducible refine Ext.set2 ?_ (by omega) _ _ | with_reducible refine Ext.setCell ?_ (by first | omega | (simp; done) | (simp; omega)) _ | with_reducible refine Ext.trans ?_ (by with_reducible assumption)))); have y3 := he3.size'; try simp at y3; try (have v3 : w1.heap.size < w3.heap.size := by omega); try (have v3' : w1.heap.size + 1 < w3.heap.size := by omega); try (have v4 : w2.heap.size < w3.heap.size := by omega); try (have v4' : w2.heap.size + 1 < w3.heap.size := by omega)))
    all_goals
      go_wp2_with fail
      go_meet
      go_light
      clear HK HK2 H1 H2 HN1 HN2 hq hr hB1 hB2 hB3 hB4
      have hE3 : Ext W w3 := by (repeat (first | with_reducible assumption | with_reducible exact Ext.refl _ | with_reducible refine Ext.drew ?_ | with_reducible refine Ext.drewN ?_ _ | with_reducible refine Ext.alloc ?_ _ | with_reducible refine Ext.set2 ?_ (by omega) _ _ | with_reducible refine Ext.setCell ?_ (by first | omega | (simp; done) | (simp; omega)) _ | with_reducible refine Ext.trans ?_ (by with_reducible assumption)))
      first
        | with_reducible exact dm_f1 hE3 hm2' hm3
        | with_reducible exact dm_f2 hE3 hm2' hm3
        | ((with_reducible refine dm_f3 hE3 hm2' hm3 ?_ ?_); (focus (clear hE3 hE he1; show Blk _ _ _ #[.bool false, .slice none 0 0]; (repeat (first | with_reducible refine Blk.drew ?_ | with_reducible exact Blk.newAt _ _ _ rfl | with_reducible exact Blk.newAt _ _ _ (World.size_alloc _ _) | with_reducible refine Blk.alloc ?_ _ | with_reducible refine Blk.ext ?_ (by with_reducible assumption))))); omega)
        | ((with_reducible refine dm_f4 hE3 hm2' hm3 ?_ ?_); (focus (clear hE3 hE he1; show Blk _ _ _ #[.bool false, .slice none 0 0]; (repeat (first | with_reducible refine Blk.drew ?_ | with_reducible exact Blk.newAt _ _ _ rfl | with_reducible exact Blk.newAt _ _ _ (World.size_alloc _ _) | with_reducible refine Blk.alloc ?_ _ | with_reducible refine Blk.ext ?_ (by with_reducible assumption))))); omega)
        | ((with_reducible refine dm_f5 hE3 hm2' hm3 ?_ ?_ ?_ ?_ ?_); (focus (clear hE3 hE he1; show Blk _ _ _ #[.bool false, .slice none 0 0]; (repeat (first | with_reducible refine Blk.drew ?_ | with_reducible exact Blk.newAt _ _ _ rfl | with_reducible exact Blk.newAt _ _ _ (World.size_alloc _ _) | with_reducible refine Blk.alloc ?_ _ | with_reducible refine Blk.ext ?_ (by with_reducible assumption))))); (focus (clear hE3 hE he1; show Blk _ _ _ #[.bool false, .slice none 0 0]; (repeat (first | with_reducible refine Blk.drew ?_ | with_reducible exact Blk.newAt _ _ _ rfl | with_reducible exact Blk.newAt _ _ _ (World.size_alloc _ _) | with_reducible refine Blk.alloc ?_ _ | with_reducible refine Blk.ext ?_ (by with_reducible assumption))))); omega; omega; omega)
  case rest =>
    obtain ⟨qb, rb, s2, A2, n2, c2, s3, A3, n3, c3, rfl, rfl, hBq, hBr, hq2, hr2, hEW, hqb, hrb, hne⟩ := hcut
    have hq2 : IsInt wc (.bool s2) (.slice A2 n2 c2) (signed (s != s') (x.natAbs / y.natAbs)) := hq2
    have bq := hBq.two
    have br := hBr.two
    have b2 := (hB2.ext hEW).two
    have b3 := (hB3.ext hEW).two
    have b4 := (hB4.ext hEW).two
    have lq := hBq.lt
    have lr := hBr.lt
    have l2 := (hB2.ext hEW).lt
    have l3 := (hB3.ext hEW).lt
    have l4 := (hB4.ext hEW).lt
    have hqb2 : w.heap.size + 1 + 1 + 1 < qb := by have := hB4.lt; omega
    have hrb2 : w.heap.size + 1 + 1 + 1 < rb := by have := hB4.lt; omega
    have d1 : ¬ qb = w.heap.size + 1 + 1 := by omega
    have d2 : ¬ qb = w.heap.size + 1 + 1 + 1 := by omega
    have d3 : ¬ rb = w.heap.size + 1 + 1 := by omega
    have d4 : ¬ rb = w.heap.size + 1 + 1 + 1 := by omega
    have d5 : ¬ w.heap.size + 1 + 1 = qb := by omega
    have d6 : ¬ w.heap.size + 1 + 1 + 1 = qb := by omega
    have d7 : ¬ w.heap.size + 1 + 1 = rb := by omega
    have d8 : ¬ w.heap.size + 1 + 1 + 1 = rb := by omega
    have hlr' : (wordsOf (signed s (x.natAbs % y.natAbs)).natAbs).length ≤ 1000000 := by rw [signed_abs]; omega
    have hly' : (wordsOf ((y.natAbs : Nat) : Int).natAbs).length ≤ 1000000 := by rw [Int.natAbs_natCast]; omega
    cases s3
    · go_wp2
      go_region_held3 (fun w' => w'.cell? ⟨qb, 0, none⟩ = some (.bool s2) ∧ w'.cell? ⟨qb, 1, none⟩ = some (.slice A2 n2 c2) ∧ w'.cell? ⟨rb, 0, none⟩ = some (.bool false) ∧ w'.cell? ⟨rb, 1, none⟩ = some (.slice A3 n3 c3)) (go_keep) (fail)
      go_wp2
      refine bodyPost_ret (v := .tuple #[.agg #[.bool s2, .slice A2 n2 c2], .agg #[.bool false, .slice A3 n3 c3], .int .i64 0]) (by simp [results, Tryz.results137, go_sem, b3, b4]) rfl ?_
      have hbz := hr2.1
      have hfin := divmod_pos x y hy0 (by simpa [ES.out] using hbz)
      rw [← ES.out, ← ES'.out] at hfin
      refine ⟨_, _, _, _, _, _, _, _, rfl, ?_, ?_, ?_⟩
      · rw [← hfin.1]; exact ((hq2.ext ((Ext.refl _).drew)).set2 (TypeAt.ext (hB3.ext hEW).type ((Ext.refl _).drew)) (by decide) _ _).set2 (((TypeAt.ext (hB4.ext hEW).type ((Ext.refl _).drew)).setCell _ _).setCell _ _) (by decide) _ _
      · rw [← hfin.2]; exact ((hr2.ext ((Ext.refl _).drew)).set2 (TypeAt.ext (hB3.ext hEW).type ((Ext.refl _).drew)) (by decide) _ _).set2 (((TypeAt.ext (hB4.ext hEW).type ((Ext.refl _).drew)).setCell _ _).setCell _ _) (by decide) _ _
      · exact (((hE.trans hEW).drew).set2 (by omega) _ _).set2 (by omega) _ _
    · have hbz := Lib.hid hr2.1
      have hlq' : (wordsOf (signed (s != s') (x.natAbs / y.natAbs)).natAbs).length ≤ 1000000 := by rw [signed_abs]; omega
      have hls' : (wordsOf (y.sign).natAbs).length ≤ 1000000 := by have := wordsOf_len1 (show y.sign.natAbs < 4294967296 by have := sign_bd y; omega); omega
      go_wp2_with fail
      go_upto_region 6 with fail
      go_cut [] (fun wx => ∃ (s5 : Bool) (A5 : Option Addr) (n5 c5 : Nat), Blk wx rb 37 #[.bool s5, .slice A5 n5 c5] ∧ IsInt wx (.bool s5) (.slice A5 n5 c5) (signed s (x.natAbs % y.natAbs) + (y.natAbs : Int)) ∧
        Blk wx qb 37 #[.bool s2, .slice A2 n2 c2] ∧ IsInt wx (.bool s2) (.slice A2 n2 c2) (signed (s != s') (x.natAbs / y.natAbs)) ∧ Ext W wx)
      case first =>
        go_region_with (first | (go_at_call 107; (with_reducible refine (iAbs_any _ _ _ _ (by omega) (H2.out.ext (by (repeat (first | with_reducible assumption | with_reducible exact Ext.refl _ | with_reducible refine Ext.drew ?_ | with_reducible refine Ext.drewN ?_ _ | with_reducible refine Ext.alloc ?_ _ | with_reducible refine Ext.set2 ?_ (by omega) _ _ | with_reducible refine Ext.setCell ?_ (by first | omega | (simp; done) | (simp; omega)) _ | with_reducible refine Ext.trans ?_ (by with_reducible assumption)))))).mono ?_); rintro e w2 ⟨s4, A4, n4, c4, rfl, hm4, he4⟩; have bq4 := (hBq.ext (show Ext wc w2 by (repeat (first | with_reducible assumption | with_reducible exact Ext.refl _ | with_reducible refine Ext.drew ?_ | with_reducible refine Ext.drewN ?_ _ | with_reducible refine Ext.alloc ?_ _ | with_reducible refine Ext.set2 ?_ (by omega) _ _ | with_reducible refine Ext.setCell ?_ (by first | omega | (simp; done) | (simp; omega)) _ | with_reducible refine Ext.trans ?_ (by with_reducible assumption))))).two; have br4 := (hBr.ext (show Ext wc w2 by (repeat (first | with_reducible assumption | with_reducible exact Ext.refl _ | with_reducible refine Ext.drew ?_ | with_reducible refine Ext.drewN ?_ _ | with_reducible refine Ext.alloc ?_ _ | with_reducible refine Ext.set2 ?_ (by omega) _ _ | with_reducible refine Ext.setCell ?_ (by first | omega | (simp; done) | (simp; omega)) _ | with_reducible refine Ext.trans ?_ (by with_reducible assumption))))).two) | (go_at_call 77; (with_reducible refine (iAdd_any _ _ _ _ _ _ _ hlr' hly' (hr2.ext (by (repeat (first | with_reducible assumption | with_reducible exact Ext.refl _ | with_reducible refine Ext.drew ?_ | with_reducible refine Ext.drewN ?_ _ | with_reducible refine Ext.alloc ?_ _ | with_reducible refine Ext.set2 ?_ (by omega) _ _ | with_reducible refine Ext.setCell ?_ (by first | omega | (simp; done) | (simp; omega)) _ | with_reducible refine Ext.trans ?_ (by with_reducible assumption))))) hm4).mono ?_); rintro e w3 ⟨s5, A5, n5, c5, rfl, hm5, he5⟩; have bq5 := (hBq.ext (show Ext wc w3 by (repeat (first | with_reducible assumption | with_reducible exact Ext.refl _ | with_reducible refine Ext.drew ?_ | with_reducible refine Ext.drewN ?_ _ | with_reducible refine Ext.alloc ?_ _ | with_reducible refine Ext.set2 ?_ (by omega) _ _ | with_reducible refine Ext.setCell ?_ (by first | omega | (simp; done) | (simp; omega)) _ | with_reducible refine Ext.trans ?_ (by with_reducible assumption))))).two; have br5 := (hBr.ext (show Ext wc w3 by (repeat (first | with_reducible assumption | with_reducible exact Ext.refl _ | with_reducible refine Ext.drew ?_ | with_reducible refine Ext.drewN ?_ _ | with_reducible refine Ext.alloc ?_ _ | with_reducible refine Ext.set2 ?_ (by omega) _ _ | with_reducible refine Ext.setCell ?_ (by first | omega | (simp; done) | (simp; omega)) _ | with_reducible refine Ext.trans ?_ (by with_reducible assumption))))).two))
        all_goals
          go_wp2_with fail
          go_meet
          have hx3 : Ext wc w3 := by (repeat (first | with_reducible assumption | with_reducible exact Ext.refl _ | with_reducible refine Ext.drew ?_ | with_reducible refine Ext.drewN ?_ _ | with_reducible refine Ext.alloc ?_ _ | with_reducible refine Ext.set2 ?_ (by omega) _ _ | with_reducible refine Ext.setCell ?_ (by first | omega | (simp; done) | (simp; omega)) _ | with_reducible refine Ext.trans ?_ (by with_reducible assumption)))
          exact ⟨s5, A5, n5, c5, (hBr.ext hx3).set2 _ _, hm5.set2 (hBr.ext hx3).type (by decide) _ _, (hBq.ext hx3).far2 hne _ _, (hq2.ext hx3).set2 (hBr.ext hx3).type (by decide) _ _, (hEW.trans hx3).set2 hrb _ _⟩
      case rest =>
        clear hBq hBr hq2 hr2 bq br b2 b3 b4 lq lr l2 l3 l4
        obtain ⟨s5, A5, n5, c5, hBr, hr5, hBq, hq2, hEW5⟩ := hcut
        have b2 := (hB2.ext hEW5).two
        have bq := hBq.two
        go_wp2_with fail
        go_upto_region 7 with fail
        go_cut [] (fun wx => ∃ (s8 : Bool) (A8 : Option Addr) (n8 c8 : Nat), Blk wx qb 37 #[.bool s8, .slice A8 n8 c8] ∧ IsInt wx (.bool s8) (.slice A8 n8 c8) (signed (s != s') (x.natAbs / y.natAbs) - y.sign) ∧
          Blk wx rb 37 #[.bool s5, .slice A5 n5 c5] ∧ IsInt wx (.bool s5) (.slice A5 n5 c5) (signed s (x.natAbs % y.natAbs) + (y.natAbs : Int)) ∧ Ext W wx)
        case first =>
          go_region_with (first | (go_at_call 63; (with_reducible refine (iSign_any _ _ _ _ (H2.out.ext (by (repeat (first | with_reducible assumption | with_reducible exact Ext.refl _ | with_reducible refine Ext.drew ?_ | with_reducible refine Ext.drewN ?_ _ | with_reducible refine Ext.alloc ?_ _ | with_reducible refine Ext.set2 ?_ (by omega) _ _ | with_reducible refine Ext.setCell ?_ (by first | omega | (simp; done) | (simp; omega)) _ | with_reducible refine Ext.trans ?_ (by with_reducible assumption)))))).mono ?_); rintro e w2 ⟨rfl, he4⟩; have bq4 := (hBq.ext (show Ext wc w2 by (repeat (first | with_reducible assumption | with_reducible exact Ext.refl _ | with_reducible refine Ext.drew ?_ | with_reducible refine Ext.drewN ?_ _ | with_reducible refine Ext.alloc ?_ _ | with_reducible refine Ext.set2 ?_ (by omega) _ _ | with_reducible refine Ext.setCell ?_ (by first | omega | (simp; done) | (simp; omega)) _ | with_reducible refine Ext.trans ?_ (by with_reducible assumption))))).two) | (go_at_call 45; (with_reducible refine (Of_any _ _ (by have := sign_bd y; omega) (by have := sign_bd y; omega)).mono ?_); rintro e w3 ⟨s6, A6, n6, c6, rfl, hm6, he6⟩; have bq6 := (hBq.ext (show Ext wc w3 by (repeat (first | with_reducible assumption | with_reducible exact Ext.refl _ | with_reducible refine Ext.drew ?_ | with_reducible refine Ext.drewN ?_ _ | with_reducible refine Ext.alloc ?_ _ | with_reducible refine Ext.set2 ?_ (by omega) _ _ | with_reducible refine Ext.setCell ?_ (by first | omega | (simp; done) | (simp; omega)) _ | with_reducible refine Ext.trans ?_ (by with_reducible assumption))))).two) | (go_at_call 175; (with_reducible refine (iSub_any _ _ _ _ _ _ _ hlq' hls' (hq2.ext (by (repeat (first | with_reducible assumption | with_reducible exact Ext.refl _ | with_reducible refine Ext.drew ?_ | with_reducible refine Ext.drewN ?_ _ | with_reducible refine Ext.alloc ?_ _ | with_reducible refine Ext.set2 ?_ (by omega) _ _ | with_reducible refine Ext.setCell ?_ (by first | omega | (simp; done) | (simp; omega)) _ | with_reducible refine Ext.trans ?_ (by with_reducible assumption))))) hm6).mono ?_); rintro e w5 ⟨s8, A8, n8, c8, rfl, hm8, he8⟩; have bq8 := (hBq.ext (show Ext wc w5 by (repeat (first | with_reducible assumption | with_reducible exact Ext.refl _ | with_reducible refine Ext.drew ?_ | with_reducible refine Ext.drewN ?_ _ | with_reducible refine Ext.alloc ?_ _ | with_reducible refine Ext.set2 ?_ (by omega) _ _ | with_reducible refine Ext.setCell ?_ (by first | omega | (simp; done) | (simp; omega)) _ | with_reducible refine Ext.trans ?_ (by with_reducible assumption))))).two))
          all_goals
            go_wp2_with fail
            go_meet
            have hx5 : Ext wc w5 := by (repeat (first | with_reducible assumption | with_reducible exact Ext.refl _ | with_reducible refine Ext.drew ?_ | with_reducible refine Ext.drewN ?_ _ | with_reducible refine Ext.alloc ?_ _ | with_reducible refine Ext.set2 ?_ (by omega) _ _ | with_reducible refine Ext.setCell ?_ (by first | omega | (simp; done) | (simp; omega)) _ | with_reducible refine Ext.trans ?_ (by with_reducible assumption)))
            exact ⟨s8, A8, n8, c8, (hBq.ext hx5).set2 _ _, hm8.set2 (hBq.ext hx5).type (by decide) _ _, (hBr.ext hx5).far2 (Ne.symm hne) _ _, (hr5.ext hx5).set2 (hBq.ext hx5).type (by decide) _ _, (hEW5.trans hx5).set2 hqb _ _⟩
        case rest =>
          clear hBq hBr hr5 hq2 bq b2 hEW5
          obtain ⟨s8, A8, n8, c8, hBq, hq8, hBr, hr5, hEW8⟩ := hcut
          have bq := hBq.two
          have br := hBr.two
          have b3 := (hB3.ext hEW8).two
          have b4 := (hB4.ext hEW8).two
          go_wp2_with fail
          go_region_held3 (fun w' => w'.cell? ⟨qb, 0, none⟩ = some (.bool s8) ∧ w'.cell? ⟨qb, 1, none⟩ = some (.slice A8 n8 c8) ∧ w'.cell? ⟨rb, 0, none⟩ = some (.bool s5) ∧ w'.cell? ⟨rb, 1, none⟩ = some (.slice A5 n5 c5)) (go_keep) (fail)
          go_wp2
          refine bodyPost_ret (v := .tuple #[.agg #[.bool s8, .slice A8 n8 c8], .agg #[.bool s5, .slice A5 n5 c5], .int .i64 0]) (by simp [results, Tryz.results137, go_sem, b3, b4]) rfl ?_
          have hfin := divmod_neg x y hy0 (by simpa [ES.out] using hbz.out)
          rw [← ES.out, ← ES'.out] at hfin
          refine ⟨_, _, _, _, _, _, _, _, rfl, ?_, ?_, ?_⟩
          · rw [← hfin.1]; exact ((hq8.ext ((Ext.refl _).drew)).set2 (TypeAt.ext (hB3.ext hEW8).type ((Ext.refl _).drew)) (by decide) _ _).set2 (((TypeAt.ext (hB4.ext hEW8).type ((Ext.refl _).drew)).setCell _ _).setCell _ _) (by decide) _ _
          · rw [← hfin.2]; exact ((hr5.ext ((Ext.refl _).drew)).set2 (TypeAt.ext (hB3.ext hEW8).type ((Ext.refl _).drew)) (by decide) _ _).set2 (((TypeAt.ext (hB4.ext hEW8).type ((Ext.refl _).drew)).setCell _ _).setCell _ _) (by decide) _ _
          · exact (((hE.trans hEW8).drew).set2 (by omega) _ _).set2 (by omega) _ _

end Go.Proofs.YtekipapkcgoieaaGreatDoor
