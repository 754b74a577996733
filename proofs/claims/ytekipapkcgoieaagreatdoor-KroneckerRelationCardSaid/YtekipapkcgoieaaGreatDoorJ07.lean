/-
  The reference's integers: quotients, remainders, greatest common divisors.
  The program's fractions: lowest terms.
  The reference's fractions: lowest terms.
  Fractions: sums, products, of both programs.
-/
import Derived.Test.YtekipapkcgoieaaGreatDoorJ06
import Derived.Test.YtekipapkcgoieaaGreatDoorJ04
set_option linter.unusedVariables false
set_option linter.unusedSimpArgs false

/- The reference's integers: quotients, remainders, greatest common divisors. -/
namespace Go.Proofs.YtekipapkcgoieaaGreatDoor
open Go.RowKit
attribute [local go_sem ↓] Go.wp_at_zero Go.wp_at_succ

theorem iDivMod1_any (b1 v1 b2 v2 : Value) (x y : Int) (w : World) (hx : x.natAbs ≤ 18446744073709551615) (hy : y.natAbs ≤ 18446744073709551615) (hy0 : y ≠ 0) (h1 : IsInt w b1 v1 x) (h2 : IsInt w b2 v2 y) :
    Calls Tryz.prog 158 #[.agg #[b1, v1], .agg #[b2, v2]] w (RDM w (x / y) (x % y)) := by
  by_cases h : y < 0
  · exact iDivMod1_neg _ _ _ _ _ _ _ hx hy hy0 h h1 h2
  · exact iDivMod1_pos _ _ _ _ _ _ _ hx hy hy0 h h1 h2

set_option maxRecDepth 100000 in
set_option maxHeartbeats 1000000 in
theorem iMod1_any (b1 v1 b2 v2 : Value) (x y : Int) (w : World) (hx : x.natAbs ≤ 18446744073709551615) (hy : y.natAbs ≤ 18446744073709551615) (hy0 : y ≠ 0) (h1 : IsInt w b1 v1 x) (h2 : IsInt w b2 v2 y) :
    Calls Tryz.prog 157 #[.agg #[b1, v1], .agg #[b2, v2]] w (RInt w (x % y)) := by
  obtain ⟨s1, A1, n1, c1, rfl, rfl, -, -, -⟩ := h1.form
  obtain ⟨s2, A2, n2, c2, rfl, rfl, -, -, -⟩ := h2.form
  have H1 := Lib.hid h1
  have H2 := Lib.hid h2
  clear h1 h2
  go_enter Tryz.func157, Tryz.ntmps157
  go_wp2_with fail
  obtain ⟨W, hW⟩ : ∃ W : World, W = ((w.alloc (.cells #[.bool s1, .slice A1 n1 c1] 37)).alloc (.cells #[.bool s2, .slice A2 n2 c2] 37)).alloc (.cells #[.bool false, .slice none 0 0] 37) := ⟨_, rfl⟩
  rw [← hW]
  have hE : Ext w W := by rw [hW]; exact (((Ext.refl w).alloc _).alloc _).alloc _
  have hB1 : Blk W (w.heap.size) 37 #[.bool s1, .slice A1 n1 c1] := by rw [hW]; exact ((Blk.newAt _ _ _ (by simp)).alloc _).alloc _
  have hB2 : Blk W (w.heap.size + 1) 37 #[.bool s2, .slice A2 n2 c2] := by rw [hW]; exact (Blk.newAt _ _ _ (by simp)).alloc _
  have hB3 : Blk W (w.heap.size + 1 + 1) 37 #[.bool false, .slice none 0 0] := by rw [hW]; exact Blk.newAt _ _ _ (by simp)
  clear hW
  have HK : Hid (∀ w', Ext W w' → Ext w w' ∧ w'.cell? ⟨w.heap.size, 0, none⟩ = some (.bool s1) ∧ w'.cell? ⟨w.heap.size, 1, none⟩ = some (.slice A1 n1 c1) ∧ w'.cell? ⟨w.heap.size + 1, 0, none⟩ = some (.bool s2) ∧ w'.cell? ⟨w.heap.size + 1, 1, none⟩ = some (.slice A2 n2 c2)) := fun w' h => ⟨hE.trans h, (hB1.ext h).cell 0, (hB1.ext h).cell 1, (hB2.ext h).cell 0, (hB2.ext h).cell 1⟩
  have HK2 : Hid (∀ w' w'', w'.grownBy w'' (some (w.heap.size + 1 + 1)) → Ext W w' → Ext w w'' ∧ w''.cell? ⟨w.heap.size, 0, none⟩ = some (.bool s1) ∧ w''.cell? ⟨w.heap.size, 1, none⟩ = some (.slice A1 n1 c1) ∧ w''.cell? ⟨w.heap.size + 1, 0, none⟩ = some (.bool s2) ∧ w''.cell? ⟨w.heap.size + 1, 1, none⟩ = some (.slice A2 n2 c2)) := fun w' w'' hg h => ⟨(hE.trans h).grown hg (by intro k hk; injection hk with hk; omega), (hg.cell_far ⟨w.heap.size, 0, none⟩ (hB1.ext h).lt (by first | (simp; done) | (simp; omega))).trans ((hB1.ext h).cell 0), (hg.cell_far ⟨w.heap.size, 1, none⟩ (hB1.ext h).lt (by first | (simp; done) | (simp; omega))).trans ((hB1.ext h).cell 1), (hg.cell_far ⟨w.heap.size + 1, 0, none⟩ (hB2.ext h).lt (by first | (simp; done) | (simp; omega))).trans ((hB2.ext h).cell 0), (hg.cell_far ⟨w.heap.size + 1, 1, none⟩ (hB2.ext h).lt (by first | (simp; done) | (simp; omega))).trans ((hB2.ext h).cell 1)⟩
  refine (iDivMod1_any _ _ _ _ x y _ hx hy hy0 (H1.out.ext hE) (H2.out.ext hE)).mono ?_
  rintro e w3 ⟨s, A, n, c, s', A', n', c', rfl, hq, hr, he3⟩
  have hq3 := (hB3.ext he3).two
  have hl3 := (hB3.ext he3).lt
  have hne : ¬ w3.heap.size = w.heap.size + 1 + 1 := by omega
  have hne2 : ¬ w3.heap.size + 1 = w.heap.size + 1 + 1 := by omega
  have hq5 := (((hB3.ext he3).alloc (.cells #[.bool s, .slice A n c] 37)).alloc (.cells #[.bool s', .slice A' n' c'] 37)).two
  go_wp2
  refine bodyPost_ret (v := .agg #[.bool s', .slice A' n' c']) (by simp [results, Tryz.results157, go_sem, hq5]) rfl ?_
  exact RInt.close hE ((he3.alloc _).alloc _) hB3 (by omega) ((hr.alloc _).alloc _)
set_option maxRecDepth 100000 in
set_option maxHeartbeats 1000000 in
theorem iDiv1_any (b1 v1 b2 v2 : Value) (x y : Int) (w : World) (hx : x.natAbs ≤ 18446744073709551615) (hy : y.natAbs ≤ 18446744073709551615) (hy0 : y ≠ 0) (h1 : IsInt w b1 v1 x) (h2 : IsInt w b2 v2 y) :
    Calls Tryz.prog 122 #[.agg #[b1, v1], .agg #[b2, v2]] w (RInt w (x / y)) := by
  obtain ⟨s1, A1, n1, c1, rfl, rfl, -, -, -⟩ := h1.form
  obtain ⟨s2, A2, n2, c2, rfl, rfl, -, -, -⟩ := h2.form
  have H1 := Lib.hid h1
  have H2 := Lib.hid h2
  clear h1 h2
  go_enter Tryz.func122, Tryz.ntmps122
  go_wp2_with fail
  obtain ⟨W, hW⟩ : ∃ W : World, W = ((w.alloc (.cells #[.bool s1, .slice A1 n1 c1] 37)).alloc (.cells #[.bool s2, .slice A2 n2 c2] 37)).alloc (.cells #[.bool false, .slice none 0 0] 37) := ⟨_, rfl⟩
  rw [← hW]
  have hE : Ext w W := by rw [hW]; exact (((Ext.refl w).alloc _).alloc _).alloc _
  have hB1 : Blk W (w.heap.size) 37 #[.bool s1, .slice A1 n1 c1] := by rw [hW]; exact ((Blk.newAt _ _ _ (by simp)).alloc _).alloc _
  have hB2 : Blk W (w.heap.size + 1) 37 #[.bool s2, .slice A2 n2 c2] := by rw [hW]; exact (Blk.newAt _ _ _ (by simp)).alloc _
  have hB3 : Blk W (w.heap.size + 1 + 1) 37 #[.bool false, .slice none 0 0] := by rw [hW]; exact Blk.newAt _ _ _ (by simp)
  clear hW
  have HK : Hid (∀ w', Ext W w' → Ext w w' ∧ w'.cell? ⟨w.heap.size, 0, none⟩ = some (.bool s1) ∧ w'.cell? ⟨w.heap.size, 1, none⟩ = some (.slice A1 n1 c1) ∧ w'.cell? ⟨w.heap.size + 1, 0, none⟩ = some (.bool s2) ∧ w'.cell? ⟨w.heap.size + 1, 1, none⟩ = some (.slice A2 n2 c2)) := fun w' h => ⟨hE.trans h, (hB1.ext h).cell 0, (hB1.ext h).cell 1, (hB2.ext h).cell 0, (hB2.ext h).cell 1⟩
  have HK2 : Hid (∀ w' w'', w'.grownBy w'' (some (w.heap.size + 1 + 1)) → Ext W w' → Ext w w'' ∧ w''.cell? ⟨w.heap.size, 0, none⟩ = some (.bool s1) ∧ w''.cell? ⟨w.heap.size, 1, none⟩ = some (.slice A1 n1 c1) ∧ w''.cell? ⟨w.heap.size + 1, 0, none⟩ = some (.bool s2) ∧ w''.cell? ⟨w.heap.size + 1, 1, none⟩ = some (.slice A2 n2 c2)) := fun w' w'' hg h => ⟨(hE.trans h).grown hg (by intro k hk; injection hk with hk; omega), (hg.cell_far ⟨w.heap.size, 0, none⟩ (hB1.ext h).lt (by first | (simp; done) | (simp; omega))).trans ((hB1.ext h).cell 0), (hg.cell_far ⟨w.heap.size, 1, none⟩ (hB1.ext h).lt (by first | (simp; done) | (simp; omega))).trans ((hB1.ext h).cell 1), (hg.cell_far ⟨w.heap.size + 1, 0, none⟩ (hB2.ext h).lt (by first | (simp; done) | (simp; omega))).trans ((hB2.ext h).cell 0), (hg.cell_far ⟨w.heap.size + 1, 1, none⟩ (hB2.ext h).lt (by first | (simp; done) | (simp; omega))).trans ((hB2.ext h).cell 1)⟩
  refine (iDivMod1_any _ _ _ _ x y _ hx hy hy0 (H1.out.ext hE) (H2.out.ext hE)).mono ?_
  rintro e w3 ⟨s, A, n, c, s', A', n', c', rfl, hq, hr, he3⟩
  have hq3 := (hB3.ext he3).two
  have hl3 := (hB3.ext he3).lt
  have hne : ¬ w3.heap.size = w.heap.size + 1 + 1 := by omega
  have hne2 : ¬ w3.heap.size + 1 = w.heap.size + 1 + 1 := by omega
  have hq5 := (((hB3.ext he3).alloc (.cells #[.bool s, .slice A n c] 37)).alloc (.cells #[.bool s', .slice A' n' c'] 37)).two
  go_wp2
  refine bodyPost_ret (v := .agg #[.bool s, .slice A n c]) (by simp [results, Tryz.results122, go_sem, hq5]) rfl ?_
  exact RInt.close hE ((he3.alloc _).alloc _) hB3 (by omega) ((hq.alloc _).alloc _)

/-- The state at the head of a round: two variables that hold two integers. -/
def GcdJ (w : World) (x y : Int) (k : Nat) (wr : World) : Prop := ∃ (a b : Int) (s : Bool) (A : Option Addr) (n c : Nat) (s' : Bool) (A' : Option Addr) (n' c' : Nat),
  Blk wr w.heap.size 37 #[.bool s, .slice A n c] ∧ Blk wr (w.heap.size + 1) 37 #[.bool s', .slice A' n' c'] ∧ Blk wr (w.heap.size + 1 + 1) 37 #[.bool false, .slice none 0 0] ∧
  IsInt wr (.bool s) (.slice A n c) a ∧ IsInt wr (.bool s') (.slice A' n' c') b ∧ Int.gcd a b = Int.gcd x y ∧ 0 ≤ a ∧ 0 ≤ b ∧ a.natAbs ≤ 18446744073709551615 ∧ b.natAbs ≤ 18446744073709551615 ∧ b.natAbs ≤ k ∧ Ext w wr

theorem GcdJ.step {w wr w3 : World} {x y a b : Int} {s : Bool} {A : Option Addr} {n c : Nat} {s' : Bool} {A' : Option Addr} {n' c' : Nat} {s3 : Bool} {A3 : Option Addr} {n3 c3 : Nat}
    (hA : Blk wr w.heap.size 37 #[.bool s, .slice A n c]) (hB : Blk wr (w.heap.size + 1) 37 #[.bool s', .slice A' n' c']) (hR : Blk wr (w.heap.size + 1 + 1) 37 #[.bool false, .slice none 0 0])
    (he : Ext wr w3) (hb : IsInt wr (.bool s') (.slice A' n' c') b) (hm : IsInt w3 (.bool s3) (.slice A3 n3 c3) (a % b)) (g1 : Int.gcd b (a % b) = Int.gcd a b) (g2 : Int.gcd a b = Int.gcd x y) (hb0 : b ≠ 0) (hbn : 0 ≤ b) (hb64 : b.natAbs ≤ 18446744073709551615) (hE : Ext w wr) :
    GcdJ w x y (a % b).natAbs ((((w3.setCell ⟨w.heap.size, 0, none⟩ (.bool s')).setCell ⟨w.heap.size, 1, none⟩ (.slice A' n' c')).setCell ⟨w.heap.size + 1, 0, none⟩ (.bool s3)).setCell ⟨w.heap.size + 1, 1, none⟩ (.slice A3 n3 c3)) := by
  have h1 := Int.emod_nonneg a hb0
  have h2 := Int.emod_lt a hb0
  have t1 := (hA.ext he).type
  have t2 := (hB.ext he).type
  exact ⟨b, a % b, s', A', n', c', s3, A3, n3, c3, ((hA.ext he).set2 _ _).far2 (by omega) _ _, ((hB.ext he).far2 (by omega) _ _).set2 _ _, ((hR.ext he).far2 (by omega) _ _).far2 (by omega) _ _,
    ((hb.ext he).set2 t1 (by decide) _ _).set2 ((t2.setCell _ _).setCell _ _) (by decide) _ _, (hm.set2 t1 (by decide) _ _).set2 ((t2.setCell _ _).setCell _ _) (by decide) _ _, g1.trans g2, hbn, h1, hb64, by omega, Nat.le_refl _,
    ((hE.trans he).set2 (Nat.le_refl _) _ _).set2 (by omega) _ _⟩

theorem GcdJ.alloc {w wr : World} {x y : Int} {k : Nat} (h : GcdJ w x y k wr) (o : Obj) : GcdJ w x y k (wr.alloc o) := by
  obtain ⟨a, b, s, A, n, c, s', A', n', c', hA, hB, hR, ha, hb, hg, ha0, hbn, ha64, hb64, hbk, hEr⟩ := h
  exact ⟨a, b, s, A, n, c, s', A', n', c', hA.alloc _, hB.alloc _, hR.alloc _, ha.alloc _, hb.alloc _, hg, ha0, hbn, ha64, hb64, hbk, hEr.alloc _⟩

set_option maxRecDepth 100000 in
set_option maxHeartbeats 2000000 in
theorem iGcd1_any (b1 v1 b2 v2 : Value) (x y : Int) (w : World) (hx : x.natAbs ≤ 18446744073709551615) (hy : y.natAbs ≤ 18446744073709551615) (h1 : IsInt w b1 v1 x) (h2 : IsInt w b2 v2 y) :
    Calls Tryz.prog 121 #[.agg #[b1, v1], .agg #[b2, v2]] w (RInt w (Int.gcd x y : Int)) := by
  obtain ⟨s1, A1, n1, c1, rfl, rfl, -, -, -⟩ := h1.form
  obtain ⟨s2, A2, n2, c2, rfl, rfl, -, -, -⟩ := h2.form
  have H1 := Lib.hid h1
  have H2 := Lib.hid h2
  clear h1 h2
  have hlx : (wordsOf x.natAbs).length ≤ 1000000 := by have := wordsOf_len2 (m := x.natAbs) (by omega); omega
  have hly : (wordsOf y.natAbs).length ≤ 1000000 := by have := wordsOf_len2 (m := y.natAbs) (by omega); omega
  go_enter Tryz.func121, Tryz.ntmps121
  go_wp2_with fail
  obtain ⟨W, hW⟩ : ∃ W : World, W = ((w.alloc (.cells #[.bool s1, .slice A1 n1 c1] 37)).alloc (.cells #[.bool s2, .slice A2 n2 c2] 37)).alloc (.cells #[.bool false, .slice none 0 0] 37) := ⟨_, rfl⟩
  rw [← hW]
  have hE : Ext w W := by rw [hW]; exact (((Ext.refl w).alloc _).alloc _).alloc _
  have hB1 : Blk W (w.heap.size) 37 #[.bool s1, .slice A1 n1 c1] := by rw [hW]; exact ((Blk.newAt _ _ _ (by simp)).alloc _).alloc _
  have hB2 : Blk W (w.heap.size + 1) 37 #[.bool s2, .slice A2 n2 c2] := by rw [hW]; exact (Blk.newAt _ _ _ (by simp)).alloc _
  have hB3 : Blk W (w.heap.size + 1 + 1) 37 #[.bool false, .slice none 0 0] := by rw [hW]; exact Blk.newAt _ _ _ (by simp)
  clear hW
  have HK : Hid (∀ w', Ext W w' → Ext w w' ∧ w'.cell? ⟨w.heap.size, 0, none⟩ = some (.bool s1) ∧ w'.cell? ⟨w.heap.size, 1, none⟩ = some (.slice A1 n1 c1) ∧ w'.cell? ⟨w.heap.size + 1, 0, none⟩ = some (.bool s2) ∧ w'.cell? ⟨w.heap.size + 1, 1, none⟩ = some (.slice A2 n2 c2)) := fun w' h => ⟨hE.trans h, (hB1.ext h).cell 0, (hB1.ext h).cell 1, (hB2.ext h).cell 0, (hB2.ext h).cell 1⟩
  have HK2 : Hid (∀ w' w'', w'.grownBy w'' (some (w.heap.size + 1 + 1)) → Ext W w' → Ext w w'' ∧ w''.cell? ⟨w.heap.size, 0, none⟩ = some (.bool s1) ∧ w''.cell? ⟨w.heap.size, 1, none⟩ = some (.slice A1 n1 c1) ∧ w''.cell? ⟨w.heap.size + 1, 0, none⟩ = some (.bool s2) ∧ w''.cell? ⟨w.heap.size + 1, 1, none⟩ = some (.slice A2 n2 c2)) := fun w' w'' hg h => ⟨(hE.trans h).grown hg (by intro k hk; injection hk with hk; omega), (hg.cell_far ⟨w.heap.size, 0, none⟩ (hB1.ext h).lt (by first | (simp; done) | (simp; omega))).trans ((hB1.ext h).cell 0), (hg.cell_far ⟨w.heap.size, 1, none⟩ (hB1.ext h).lt (by first | (simp; done) | (simp; omega))).trans ((hB1.ext h).cell 1), (hg.cell_far ⟨w.heap.size + 1, 0, none⟩ (hB2.ext h).lt (by first | (simp; done) | (simp; omega))).trans ((hB2.ext h).cell 0), (hg.cell_far ⟨w.heap.size + 1, 1, none⟩ (hB2.ext h).lt (by first | (simp; done) | (simp; omega))).trans ((hB2.ext h).cell 1)⟩
  refine (iAbs1_any _ _ _ _ hlx (H1.out.ext hE)).mono ?_
  rintro e w1 ⟨s, A, n, c, rfl, hm1, he1⟩
  have p1 := HK.out w1 he1
  have b1 := (hB1.ext he1).two
  have l2 := (hB2.ext he1).lt
  go_wp2_with fail
  clear p1 b1
  obtain ⟨W2, hW2⟩ : ∃ W2 : World, W2 = (w1.setCell ⟨w.heap.size, 0, none⟩ (.bool s)).setCell ⟨w.heap.size, 1, none⟩ (.slice A n c) := ⟨_, rfl⟩
  rw [← hW2]
  have k1 : Blk W2 w.heap.size 37 #[.bool s, .slice A n c] := by rw [hW2]; exact (hB1.ext he1).set2 _ _
  have k2 : Blk W2 (w.heap.size + 1) 37 #[.bool s2, .slice A2 n2 c2] := by rw [hW2]; exact (hB2.ext he1).far2 (by omega) _ _
  have k3 : Blk W2 (w.heap.size + 1 + 1) 37 #[.bool false, .slice none 0 0] := by rw [hW2]; exact (hB3.ext he1).far2 (by omega) _ _
  have k4 : Ext w W2 := by rw [hW2]; exact (hE.trans he1).set2 (Nat.le_refl _) _ _
  have k5 : IsInt W2 (.bool s) (.slice A n c) (x.natAbs : Int) := by rw [hW2]; exact hm1.set2 (hB1.ext he1).type (by decide) _ _
  clear hW2 hm1 hB1 hB2 hB3 HK HK2 l2
  refine (iAbs1_any _ _ _ _ hly (H2.out.ext k4)).mono ?_
  rintro e w3 ⟨s', A', n', c', rfl, hm2, he3⟩
  have p2 := (k2.ext he3).two
  go_wp2_with fail
  clear p2
  obtain ⟨W4, hW4⟩ : ∃ W4 : World, W4 = (w3.setCell ⟨w.heap.size + 1, 0, none⟩ (.bool s')).setCell ⟨w.heap.size + 1, 1, none⟩ (.slice A' n' c') := ⟨_, rfl⟩
  rw [← hW4]
  have hJ : GcdJ w x y y.natAbs W4 := by
    rw [hW4]
    exact ⟨x.natAbs, y.natAbs, s, A, n, c, s', A', n', c', (k1.ext he3).far2 (by omega) _ _, (k2.ext he3).set2 _ _, (k3.ext he3).far2 (by omega) _ _, (k5.ext he3).set2 (k2.ext he3).type (by decide) _ _, hm2.set2 (k2.ext he3).type (by decide) _ _, by simp [Int.gcd], by omega, by omega, by omega, by omega, by omega, (k4.trans he3).set2 (by omega) _ _⟩
  clear hW4 k1 k2 k3 k4 k5 hm2 he1 he3
  go_loopg [] (y.natAbs) (fun k wr => GcdJ w x y k wr)
  case atStart => exact hJ
  case round =>
    obtain ⟨a, b, s, A, n, c, s', A', n', c', hA, hB, hR, ha, hb, hg, ha0, hbn, ha64, hb64, hbk, hEr⟩ := hrel
    clear hJ
    have qa := hA.two
    have qb := hB.two
    have qr := hR.two
    have hn' : n' = (wordsOf b.natAbs).length := Words.len hb.2
    by_cases hb0 : b = 0
    · subst hb0
      have hn0 : n' = 0 := by rw [hn']; rfl
      subst hn0
      have HG := Lib.hid (by rw [← hg]; simp; omega : a = (Int.gcd x y : Int))
      clear hn' hg
      go_wp2
      refine bodyPost_ret (v := .agg #[.bool s, .slice A n c]) (by simp [results, Tryz.results121, go_sem, qr]) rfl ?_
      rw [HG.out] at ha
      exact RInt.close hEr (Ext.refl _) hR (by omega) ha
    · have hpos : 0 < n' := by have := @wordsOf_pos b.natAbs; omega
      have HN := Lib.hid hn'
      clear hn'
      have HG := Lib.hid hg
      clear hg
      go_wp2_with fail
      refine (iMod1_any _ _ _ _ a b _ ha64 hb64 hb0 ha hb).mono ?_
      rintro e w3 ⟨s3, A3, n3, c3, rfl, hm3, he3⟩
      have qa3 := (hA.ext he3).two
      have qb3 := (hB.ext he3).two
      have lb3 := (hB.ext he3).lt
      have la3 := (hA.ext he3).lt
      go_wp2
      go_roundg (a % b).natAbs
      case measure => (have := Int.emod_nonneg a hb0; have := Int.emod_lt a hb0; omega)
      case rel => exact (GcdJ.step hA hB hR he3 hb hm3 (gcd_step a b) HG.out hb0 hbn hb64 hEr).alloc _

end Go.Proofs.YtekipapkcgoieaaGreatDoor

/- The program's fractions: lowest terms. -/
namespace Go.Proofs.YtekipapkcgoieaaGreatDoor
open Go.RowKit
attribute [local go_sem ↓] Go.wp_at_zero Go.wp_at_succ

theorem mk_num (n : Int) {d : Nat} (hd : 0 < d) : n / (Int.gcd n d : Int) = (mkRat n d).num := by
  rw [Rat.mkRat_def, dif_neg (by omega), Rat.normalize_eq]; rfl
theorem mk_den (n : Int) {d : Nat} (hd : 0 < d) : (d : Int) / (Int.gcd n d : Int) = ((mkRat n d).den : Int) := by
  rw [Rat.mkRat_def, dif_neg (by omega), Rat.normalize_eq]; rfl
theorem gcd_le_den (n : Int) {d : Nat} (hd : 0 < d) : Int.gcd n d ≤ d ∧ 0 < Int.gcd n d := by
  have h1 : Int.gcd n d ∣ d := Nat.gcd_dvd_right n.natAbs d
  exact ⟨Nat.le_of_dvd hd h1, Nat.pos_of_dvd_of_pos h1 hd⟩

def RRat (w : World) (q : Rat) (e : Ending) (w' : World) : Prop := ∃ (s : Bool) (A : Option Addr) (n c : Nat) (s' : Bool) (A' : Option Addr) (n' c' : Nat),
  e = .returned (.agg #[.bool s, .slice A n c, .bool s', .slice A' n' c']) ∧ IsRat w' (.bool s) (.slice A n c) (.bool s') (.slice A' n' c') q ∧ Ext w w'

theorem Ext.set4 {a b : World} (h : Ext a b) {k : Nat} (hk : a.heap.size ≤ k) (u v x y : Value) : Ext a ((((b.setCell ⟨k, 0, none⟩ u).setCell ⟨k, 1, none⟩ v).setCell ⟨k, 2, none⟩ x).setCell ⟨k, 3, none⟩ y) :=
  (((h.setCell (p := ⟨k, 0, none⟩) hk u).setCell (p := ⟨k, 1, none⟩) hk v).setCell (p := ⟨k, 2, none⟩) hk x).setCell (p := ⟨k, 3, none⟩) hk y
theorem IsInt.set4 {w : World} {b v : Value} {z : Int} (h : IsInt w b v z) {k : Nat} {t : TypeId} (hk : TypeAt w k t) (ht : t ≠ 123) (a c d e : Value) : IsInt ((((w.setCell ⟨k, 0, none⟩ a).setCell ⟨k, 1, none⟩ c).setCell ⟨k, 2, none⟩ d).setCell ⟨k, 3, none⟩ e) b v z :=
  (((h.setCell (p := ⟨k, 0, none⟩) hk ht a).setCell (p := ⟨k, 1, none⟩) (hk.setCell _ _) ht c).setCell (p := ⟨k, 2, none⟩) ((hk.setCell _ _).setCell _ _) ht d).setCell (p := ⟨k, 3, none⟩) (((hk.setCell _ _).setCell _ _).setCell _ _) ht e

theorem RRat.close {w W w3 : World} {s : Bool} {A : Option Addr} {n c : Nat} {s' : Bool} {A' : Option Addr} {n' c' R : Nat} {q : Rat} {cs : Array Value} (hE : Ext w W) (hEE : Ext W w3) (hB : Blk W R 39 cs) (hR : w.heap.size ≤ R)
    (h : IsInt w3 (.bool s) (.slice A n c) q.num) (h' : IsInt w3 (.bool s') (.slice A' n' c') (q.den : Int)) :
    RRat w q (.returned (.agg #[.bool s, .slice A n c, .bool s', .slice A' n' c'])) ((((w3.setCell ⟨R, 0, none⟩ (.bool s)).setCell ⟨R, 1, none⟩ (.slice A n c)).setCell ⟨R, 2, none⟩ (.bool s')).setCell ⟨R, 3, none⟩ (.slice A' n' c')) :=
  ⟨_, _, _, _, _, _, _, _, rfl, ⟨h.set4 (hB.ext hEE).type (by decide) _ _ _ _, h'.set4 (hB.ext hEE).type (by decide) _ _ _ _⟩, (hE.trans hEE).set4 hR _ _ _ _⟩

theorem IsRat.form {w : World} {a b c d : Value} {q : Rat} (h : IsRat w a b c d q) : ∃ (s : Bool) (A : Option Addr) (n k : Nat) (s' : Bool) (A' : Option Addr) (n' k' : Nat), a = .bool s ∧ b = .slice A n k ∧ c = .bool s' ∧ d = .slice A' n' k' := by
  obtain ⟨s, A, n, k, rfl, rfl, -, -, -⟩ := h.1.form
  obtain ⟨s', A', n', k', rfl, rfl, -, -, -⟩ := h.2.form
  exact ⟨_, _, _, _, _, _, _, _, rfl, rfl, rfl, rfl⟩

set_option maxRecDepth 100000 in
set_option maxHeartbeats 2000000 in
theorem reduced_any (b1 v1 b2 v2 : Value) (x : Int) (d : Nat) (w : World) (hx : (wordsOf x.natAbs).length ≤ 1000) (hd0 : 0 < d) (hd : d < 4294967296) (h1 : IsInt w b1 v1 x) (h2 : IsInt w b2 v2 (d : Int)) :
    Calls Tryz.prog 76 #[.agg #[b1, v1], .agg #[b2, v2]] w (RRat w (mkRat x d)) := by
  obtain ⟨s1, A1, n1, c1, rfl, rfl, -, -, -⟩ := h1.form
  obtain ⟨s2, A2, n2, c2, rfl, rfl, -, -, -⟩ := h2.form
  have H1 := Lib.hid h1
  have H2 := Lib.hid h2
  clear h1 h2
  go_enter Tryz.func76, Tryz.ntmps76
  go_wp2_with fail
  obtain ⟨W, hW⟩ : ∃ W : World, W = ((w.alloc (.cells #[.bool s1, .slice A1 n1 c1] 37)).alloc (.cells #[.bool s2, .slice A2 n2 c2] 37)).alloc (.cells #[.bool false, .slice none 0 0, .bool false, .slice none 0 0] 39) := ⟨_, rfl⟩
  rw [← hW]
  have hE : Ext w W := by rw [hW]; exact (((Ext.refl w).alloc _).alloc _).alloc _
  have hB1 : Blk W (w.heap.size) 37 #[.bool s1, .slice A1 n1 c1] := by rw [hW]; exact ((Blk.newAt _ _ _ (by simp)).alloc _).alloc _
  have hB2 : Blk W (w.heap.size + 1) 37 #[.bool s2, .slice A2 n2 c2] := by rw [hW]; exact (Blk.newAt _ _ _ (by simp)).alloc _
  have hB3 : Blk W (w.heap.size + 1 + 1) 39 #[.bool false, .slice none 0 0, .bool false, .slice none 0 0] := by rw [hW]; exact Blk.newAt _ _ _ (by simp)
  clear hW
  have HK : Hid (∀ w', Ext W w' → Ext w w' ∧ w'.cell? ⟨w.heap.size, 0, none⟩ = some (.bool s1) ∧ w'.cell? ⟨w.heap.size, 1, none⟩ = some (.slice A1 n1 c1) ∧ w'.cell? ⟨w.heap.size + 1, 0, none⟩ = some (.bool s2) ∧ w'.cell? ⟨w.heap.size + 1, 1, none⟩ = some (.slice A2 n2 c2)) := fun w' h => ⟨hE.trans h, (hB1.ext h).cell 0, (hB1.ext h).cell 1, (hB2.ext h).cell 0, (hB2.ext h).cell 1⟩
  have HK2 : Hid (∀ w' w'', w'.grownBy w'' (some (w.heap.size + 1 + 1)) → Ext W w' → Ext w w'' ∧ w''.cell? ⟨w.heap.size, 0, none⟩ = some (.bool s1) ∧ w''.cell? ⟨w.heap.size, 1, none⟩ = some (.slice A1 n1 c1) ∧ w''.cell? ⟨w.heap.size + 1, 0, none⟩ = some (.bool s2) ∧ w''.cell? ⟨w.heap.size + 1, 1, none⟩ = some (.slice A2 n2 c2)) := fun w' w'' hg h => ⟨(hE.trans h).grown hg (by intro k hk; injection hk with hk; omega), (hg.cell_far ⟨w.heap.size, 0, none⟩ (hB1.ext h).lt (by first | (simp; done) | (simp; omega))).trans ((hB1.ext h).cell 0), (hg.cell_far ⟨w.heap.size, 1, none⟩ (hB1.ext h).lt (by first | (simp; done) | (simp; omega))).trans ((hB1.ext h).cell 1), (hg.cell_far ⟨w.heap.size + 1, 0, none⟩ (hB2.ext h).lt (by first | (simp; done) | (simp; omega))).trans ((hB2.ext h).cell 0), (hg.cell_far ⟨w.heap.size + 1, 1, none⟩ (hB2.ext h).lt (by first | (simp; done) | (simp; omega))).trans ((hB2.ext h).cell 1)⟩
  refine (iGcd_any _ _ _ _ x (d : Int) _ hx (by omega) (H1.out.ext hE) (H2.out.ext hE)).mono ?_
  rintro e w1 ⟨s, A, n, c, rfl, hg, he1⟩
  go_wp2_with fail
  obtain ⟨W2, hW2⟩ : ∃ W2 : World, W2 = w1.alloc (.cells #[.bool s, .slice A n c] 37) := ⟨_, rfl⟩
  rw [← hW2]
  have k1 : Blk W2 w.heap.size 37 #[.bool s1, .slice A1 n1 c1] := by rw [hW2]; exact (hB1.ext he1).alloc _
  have k2 : Blk W2 (w.heap.size + 1) 37 #[.bool s2, .slice A2 n2 c2] := by rw [hW2]; exact (hB2.ext he1).alloc _
  have k3 : Blk W2 (w.heap.size + 1 + 1) 39 #[.bool false, .slice none 0 0, .bool false, .slice none 0 0] := by rw [hW2]; exact (hB3.ext he1).alloc _
  have k4 : Blk W2 w1.heap.size 37 #[.bool s, .slice A n c] := by rw [hW2]; exact Blk.newAt _ _ _ rfl
  have k5 : Ext w W2 := by rw [hW2]; exact (hE.trans he1).alloc _
  have k6 : IsInt W2 (.bool s) (.slice A n c) (Int.gcd x d : Int) := by rw [hW2]; exact hg.alloc _
  have k7 : w.heap.size + 1 + 1 < w1.heap.size := (hB3.ext he1).lt
  clear hW2 hB1 hB2 hB3 HK HK2 hg
  generalize w1.heap.size = G at *
  have HK : Hid (∀ w', Ext W2 w' → Ext w w' ∧ w'.cell? ⟨w.heap.size, 0, none⟩ = some (.bool s1) ∧ w'.cell? ⟨w.heap.size, 1, none⟩ = some (.slice A1 n1 c1) ∧ w'.cell? ⟨w.heap.size + 1, 0, none⟩ = some (.bool s2) ∧ w'.cell? ⟨w.heap.size + 1, 1, none⟩ = some (.slice A2 n2 c2) ∧ w'.cell? ⟨G, 0, none⟩ = some (.bool s) ∧ w'.cell? ⟨G, 1, none⟩ = some (.slice A n c)) := fun w' h => ⟨k5.trans h, (k1.ext h).cell 0, (k1.ext h).cell 1, (k2.ext h).cell 0, (k2.ext h).cell 1, (k4.ext h).cell 0, (k4.ext h).cell 1⟩
  have HK2 : Hid (∀ w' w'', w'.grownBy w'' (some (w.heap.size + 1 + 1)) → Ext W2 w' → Ext w w'' ∧ w''.cell? ⟨w.heap.size, 0, none⟩ = some (.bool s1) ∧ w''.cell? ⟨w.heap.size, 1, none⟩ = some (.slice A1 n1 c1) ∧ w''.cell? ⟨w.heap.size + 1, 0, none⟩ = some (.bool s2) ∧ w''.cell? ⟨w.heap.size + 1, 1, none⟩ = some (.slice A2 n2 c2) ∧ w''.cell? ⟨G, 0, none⟩ = some (.bool s) ∧ w''.cell? ⟨G, 1, none⟩ = some (.slice A n c)) := fun w' w'' hg h => ⟨(k5.trans h).grown hg (by intro k hk; injection hk with hk; omega), (hg.cell_far ⟨w.heap.size, 0, none⟩ (k1.ext h).lt (by first | (simp; done) | (simp; omega))).trans ((k1.ext h).cell 0), (hg.cell_far ⟨w.heap.size, 1, none⟩ (k1.ext h).lt (by first | (simp; done) | (simp; omega))).trans ((k1.ext h).cell 1), (hg.cell_far ⟨w.heap.size + 1, 0, none⟩ (k2.ext h).lt (by first | (simp; done) | (simp; omega))).trans ((k2.ext h).cell 0), (hg.cell_far ⟨w.heap.size + 1, 1, none⟩ (k2.ext h).lt (by first | (simp; done) | (simp; omega))).trans ((k2.ext h).cell 1), (hg.cell_far ⟨G, 0, none⟩ (k4.ext h).lt (by first | (simp; done) | (simp; omega))).trans ((k4.ext h).cell 0), (hg.cell_far ⟨G, 1, none⟩ (k4.ext h).lt (by first | (simp; done) | (simp; omega))).trans ((k4.ext h).cell 1)⟩
  have hgb := gcd_le_den x hd0
  have M1 := Lib.hid (mk_num x hd0)
  have M2 := Lib.hid (mk_den x hd0)
  generalize Int.gcd x d = g at *
  have hld : (wordsOf ((d : Nat) : Int).natAbs).length ≤ 1000 := by have := wordsOf_len1 hd; rw [Int.natAbs_natCast]; omega
  have hlg : (wordsOf ((g : Nat) : Int).natAbs).length ≤ 1000 := by have := wordsOf_len1 (m := g) (by omega); rw [Int.natAbs_natCast]; omega
  have hg0 : ((g : Nat) : Int) ≠ 0 := by omega
  have hg32 : ((g : Nat) : Int).natAbs < 4294967296 := by omega
  go_region_held3 (fun w' => Ext w w' ∧ w'.cell? ⟨w.heap.size, 0, none⟩ = some (.bool s1) ∧ w'.cell? ⟨w.heap.size, 1, none⟩ = some (.slice A1 n1 c1) ∧ w'.cell? ⟨w.heap.size + 1, 0, none⟩ = some (.bool s2) ∧ w'.cell? ⟨w.heap.size + 1, 1, none⟩ = some (.slice A2 n2 c2) ∧ w'.cell? ⟨G, 0, none⟩ = some (.bool s) ∧ w'.cell? ⟨G, 1, none⟩ = some (.slice A n c))
    (first | (refine HK.out _ ?_; (repeat (first | with_reducible assumption | with_reducible exact Ext.refl _ | with_reducible refine Ext.drew ?_ | with_reducible refine Ext.drewN ?_ _ | with_reducible refine Ext.alloc ?_ _ | with_reducible refine Ext.set2 ?_ (by omega) _ _ | with_reducible refine Ext.setCell ?_ (by first | omega | (simp; done) | (simp; omega)) _ | with_reducible refine Ext.trans ?_ (by with_reducible assumption))); done) | exact HK2.out _ _ (by (repeat (first | apply grow_set | exact World.grownBy.refl _ _))) (by (repeat (first | with_reducible assumption | with_reducible exact Ext.refl _ | with_reducible refine Ext.drew ?_ | with_reducible refine Ext.drewN ?_ _ | with_reducible refine Ext.alloc ?_ _ | with_reducible refine Ext.set2 ?_ (by omega) _ _ | with_reducible refine Ext.setCell ?_ (by first | omega | (simp; done) | (simp; omega)) _ | with_reducible refine Ext.trans ?_ (by with_reducible assumption)))))
    (first | (go_at_call 110; (with_reducible refine (rquot_any _ _ _ _ x g _ hx hlg hg0 (Or.inr hg32) (H1.out.ext (by (repeat (first | with_reducible assumption | with_reducible exact Ext.refl _ | with_reducible refine Ext.drew ?_ | with_reducible refine Ext.drewN ?_ _ | with_reducible refine Ext.alloc ?_ _ | with_reducible refine Ext.set2 ?_ (by omega) _ _ | with_reducible refine Ext.setCell ?_ (by first | omega | (simp; done) | (simp; omega)) _ | with_reducible refine Ext.trans ?_ (by with_reducible assumption))))) (k6.ext (by (repeat (first | with_reducible assumption | with_reducible exact Ext.refl _ | with_reducible refine Ext.drew ?_ | with_reducible refine Ext.drewN ?_ _ | with_reducible refine Ext.alloc ?_ _ | with_reducible refine Ext.set2 ?_ (by omega) _ _ | with_reducible refine Ext.setCell ?_ (by first | omega | (simp; done) | (simp; omega)) _ | with_reducible refine Ext.trans ?_ (by with_reducible assumption)))))).mono ?_); rintro e w3 ⟨s3, A3, n3, c3, rfl, hm3, he3⟩) | (go_at_call 110; (with_reducible refine (rquot_any _ _ _ _ (d : Int) g _ hld hlg hg0 (Or.inr hg32) (H2.out.ext (by (repeat (first | with_reducible assumption | with_reducible exact Ext.refl _ | with_reducible refine Ext.drew ?_ | with_reducible refine Ext.drewN ?_ _ | with_reducible refine Ext.alloc ?_ _ | with_reducible refine Ext.set2 ?_ (by omega) _ _ | with_reducible refine Ext.setCell ?_ (by first | omega | (simp; done) | (simp; omega)) _ | with_reducible refine Ext.trans ?_ (by with_reducible assumption))))) (k6.ext (by (repeat (first | with_reducible assumption | with_reducible exact Ext.refl _ | with_reducible refine Ext.drew ?_ | with_reducible refine Ext.drewN ?_ _ | with_reducible refine Ext.alloc ?_ _ | with_reducible refine Ext.set2 ?_ (by omega) _ _ | with_reducible refine Ext.setCell ?_ (by first | omega | (simp; done) | (simp; omega)) _ | with_reducible refine Ext.trans ?_ (by with_reducible assumption)))))).mono ?_); rintro e w5 ⟨s5, A5, n5, c5, rfl, hm5, he5⟩; have hq5 := (k3.ext (show Ext W2 w5 by (repeat (first | with_reducible assumption | with_reducible exact Ext.refl _ | with_reducible refine Ext.drew ?_ | with_reducible refine Ext.drewN ?_ _ | with_reducible refine Ext.alloc ?_ _ | with_reducible refine Ext.set2 ?_ (by omega) _ _ | with_reducible refine Ext.setCell ?_ (by first | omega | (simp; done) | (simp; omega)) _ | with_reducible refine Ext.trans ?_ (by with_reducible assumption))))).four))
  go_wp2
  refine bodyPost_ret (v := .agg #[.bool s3, .slice A3 n3 c3, .bool s5, .slice A5 n5 c5]) (by simp [results, Tryz.results76, go_sem, hq5]) rfl ?_
  have hEE : Ext W2 w5 := by (repeat (first | with_reducible assumption | with_reducible exact Ext.refl _ | with_reducible refine Ext.drew ?_ | with_reducible refine Ext.drewN ?_ _ | with_reducible refine Ext.alloc ?_ _ | with_reducible refine Ext.set2 ?_ (by omega) _ _ | with_reducible refine Ext.setCell ?_ (by first | omega | (simp; done) | (simp; omega)) _ | with_reducible refine Ext.trans ?_ (by with_reducible assumption)))
  rw [M1.out] at hm3
  rw [M2.out] at hm5
  exact RRat.close k5 hEE k3 (by omega) (hm3.ext (by (repeat (first | with_reducible assumption | with_reducible exact Ext.refl _ | with_reducible refine Ext.drew ?_ | with_reducible refine Ext.drewN ?_ _ | with_reducible refine Ext.alloc ?_ _ | with_reducible refine Ext.set2 ?_ (by omega) _ _ | with_reducible refine Ext.setCell ?_ (by first | omega | (simp; done) | (simp; omega)) _ | with_reducible refine Ext.trans ?_ (by with_reducible assumption))))) hm5

end Go.Proofs.YtekipapkcgoieaaGreatDoor

/- The reference's fractions: lowest terms. -/
namespace Go.Proofs.YtekipapkcgoieaaGreatDoor
open Go.RowKit
attribute [local go_sem ↓] Go.wp_at_zero Go.wp_at_succ

def RRatE (w : World) (q : Rat) (e : Ending) (w' : World) : Prop := ∃ (s : Bool) (A : Option Addr) (n c : Nat) (s' : Bool) (A' : Option Addr) (n' c' : Nat),
  e = .returned (.tuple #[.agg #[.bool s, .slice A n c, .bool s', .slice A' n' c'], .int .i64 0]) ∧ IsRat w' (.bool s) (.slice A n c) (.bool s') (.slice A' n' c') q ∧ Ext w w'
theorem RRatE.close {w W w3 : World} {s : Bool} {A : Option Addr} {n c : Nat} {s' : Bool} {A' : Option Addr} {n' c' R : Nat} {q : Rat} {cs : Array Value} (hE : Ext w W) (hEE : Ext W w3) (hB : Blk W R 39 cs) (hR : w.heap.size ≤ R)
    (h : IsInt w3 (.bool s) (.slice A n c) q.num) (h' : IsInt w3 (.bool s') (.slice A' n' c') (q.den : Int)) :
    RRatE w q (.returned (.tuple #[.agg #[.bool s, .slice A n c, .bool s', .slice A' n' c'], .int .i64 0])) ((((w3.setCell ⟨R, 0, none⟩ (.bool s)).setCell ⟨R, 1, none⟩ (.slice A n c)).setCell ⟨R, 2, none⟩ (.bool s')).setCell ⟨R, 3, none⟩ (.slice A' n' c')) :=
  ⟨_, _, _, _, _, _, _, _, rfl, ⟨h.set4 (hB.ext hEE).type (by decide) _ _ _ _, h'.set4 (hB.ext hEE).type (by decide) _ _ _ _⟩, (hE.trans hEE).set4 hR _ _ _ _⟩

set_option maxRecDepth 100000 in
set_option maxHeartbeats 2000000 in
theorem New1_any (b1 v1 b2 v2 : Value) (x : Int) (d : Nat) (w : World) (hx : x.natAbs ≤ 18446744073709551615) (hd0 : 0 < d) (hd : d ≤ 18446744073709551615) (h1 : IsInt w b1 v1 x) (h2 : IsInt w b2 v2 (d : Int)) :
    Calls Tryz.prog 89 #[.agg #[b1, v1], .agg #[b2, v2]] w (RRatE w (mkRat x d)) := by
  obtain ⟨s1, A1, n1, c1, rfl, rfl, -, -, -⟩ := h1.form
  obtain ⟨s2, A2, n2, c2, rfl, rfl, -, -, -⟩ := h2.form
  have cs : ∀ w', Ext w w' → Calls Tryz.prog 70 #[.agg #[.bool s2, .slice A2 n2 c2]] w' fun e w'' => e = .returned (.int .i64 1) ∧ Ext w' w'' := fun w' h => by
    have := iSign1_any _ _ _ w' (h2.ext h)
    rwa [Int.sign_eq_one_of_pos (show (0 : Int) < d by omega)] at this
  have CS := Lib.hid cs
  have H1 := Lib.hid h1
  have H2 := Lib.hid h2
  clear h1 h2 cs
  go_enter Tryz.func89, Tryz.ntmps89
  go_wp2_with fail
  obtain ⟨W, hW⟩ : ∃ W : World, W = ((w.alloc (.cells #[.bool s1, .slice A1 n1 c1] 37)).alloc (.cells #[.bool s2, .slice A2 n2 c2] 37)).alloc (.cells #[.bool false, .slice none 0 0, .bool false, .slice none 0 0] 39) := ⟨_, rfl⟩
  rw [← hW]
  have hE : Ext w W := by rw [hW]; exact (((Ext.refl w).alloc _).alloc _).alloc _
  have hB1 : Blk W (w.heap.size) 37 #[.bool s1, .slice A1 n1 c1] := by rw [hW]; exact ((Blk.newAt _ _ _ (by simp)).alloc _).alloc _
  have hB2 : Blk W (w.heap.size + 1) 37 #[.bool s2, .slice A2 n2 c2] := by rw [hW]; exact (Blk.newAt _ _ _ (by simp)).alloc _
  have hB3 : Blk W (w.heap.size + 1 + 1) 39 #[.bool false, .slice none 0 0, .bool false, .slice none 0 0] := by rw [hW]; exact Blk.newAt _ _ _ (by simp)
  clear hW
  have HK : Hid (∀ w', Ext W w' → Ext w w' ∧ w'.cell? ⟨w.heap.size, 0, none⟩ = some (.bool s1) ∧ w'.cell? ⟨w.heap.size, 1, none⟩ = some (.slice A1 n1 c1) ∧ w'.cell? ⟨w.heap.size + 1, 0, none⟩ = some (.bool s2) ∧ w'.cell? ⟨w.heap.size + 1, 1, none⟩ = some (.slice A2 n2 c2)) := fun w' h => ⟨hE.trans h, (hB1.ext h).cell 0, (hB1.ext h).cell 1, (hB2.ext h).cell 0, (hB2.ext h).cell 1⟩
  have HK2 : Hid (∀ w' w'', w'.grownBy w'' (some (w.heap.size + 1 + 1)) → Ext W w' → Ext w w'' ∧ w''.cell? ⟨w.heap.size, 0, none⟩ = some (.bool s1) ∧ w''.cell? ⟨w.heap.size, 1, none⟩ = some (.slice A1 n1 c1) ∧ w''.cell? ⟨w.heap.size + 1, 0, none⟩ = some (.bool s2) ∧ w''.cell? ⟨w.heap.size + 1, 1, none⟩ = some (.slice A2 n2 c2)) := fun w' w'' hg h => ⟨(hE.trans h).grown hg (by intro k hk; injection hk with hk; omega), (hg.cell_far ⟨w.heap.size, 0, none⟩ (hB1.ext h).lt (by first | (simp; done) | (simp; omega))).trans ((hB1.ext h).cell 0), (hg.cell_far ⟨w.heap.size, 1, none⟩ (hB1.ext h).lt (by first | (simp; done) | (simp; omega))).trans ((hB1.ext h).cell 1), (hg.cell_far ⟨w.heap.size + 1, 0, none⟩ (hB2.ext h).lt (by first | (simp; done) | (simp; omega))).trans ((hB2.ext h).cell 0), (hg.cell_far ⟨w.heap.size + 1, 1, none⟩ (hB2.ext h).lt (by first | (simp; done) | (simp; omega))).trans ((hB2.ext h).cell 1)⟩
  refine (CS.out _ hE).mono ?_
  rintro e w0 ⟨rfl, he0⟩
  have p0 := HK.out w0 he0
  go_wp2_with fail
  clear p0
  refine (iGcd1_any _ _ _ _ x (d : Int) _ hx (by omega) (H1.out.ext (hE.trans he0)) (H2.out.ext (hE.trans he0))).mono ?_
  rintro e w1 ⟨s, A, n, c, rfl, hg, he01⟩
  have he1 := he0.trans he01
  have p1 := HK.out w1 he1
  have l1 := (hB1.ext he1).lt
  have l2 := (hB2.ext he1).lt
  have l3 := (hB3.ext he1).lt
  go_wp2_with fail
  clear p1 l1 l2 l3
  obtain ⟨W2, hW2⟩ : ∃ W2 : World, W2 = w1.alloc (.cells #[.bool s, .slice A n c] 37) := ⟨_, rfl⟩
  rw [← hW2]
  have k1 : Blk W2 w.heap.size 37 #[.bool s1, .slice A1 n1 c1] := by rw [hW2]; exact (hB1.ext he1).alloc _
  have k2 : Blk W2 (w.heap.size + 1) 37 #[.bool s2, .slice A2 n2 c2] := by rw [hW2]; exact (hB2.ext he1).alloc _
  have k3 : Blk W2 (w.heap.size + 1 + 1) 39 #[.bool false, .slice none 0 0, .bool false, .slice none 0 0] := by rw [hW2]; exact (hB3.ext he1).alloc _
  have k4 : Blk W2 w1.heap.size 37 #[.bool s, .slice A n c] := by rw [hW2]; exact Blk.newAt _ _ _ rfl
  have k5 : Ext w W2 := by rw [hW2]; exact (hE.trans he1).alloc _
  have k6 : IsInt W2 (.bool s) (.slice A n c) (Int.gcd x d : Int) := by rw [hW2]; exact hg.alloc _
  have k7 : w.heap.size + 1 + 1 < w1.heap.size := (hB3.ext he1).lt
  clear hW2 hB1 hB2 hB3 HK HK2 hg
  generalize w1.heap.size = G at *
  have HK : Hid (∀ w', Ext W2 w' → Ext w w' ∧ w'.cell? ⟨w.heap.size, 0, none⟩ = some (.bool s1) ∧ w'.cell? ⟨w.heap.size, 1, none⟩ = some (.slice A1 n1 c1) ∧ w'.cell? ⟨w.heap.size + 1, 0, none⟩ = some (.bool s2) ∧ w'.cell? ⟨w.heap.size + 1, 1, none⟩ = some (.slice A2 n2 c2) ∧ w'.cell? ⟨G, 0, none⟩ = some (.bool s) ∧ w'.cell? ⟨G, 1, none⟩ = some (.slice A n c)) := fun w' h => ⟨k5.trans h, (k1.ext h).cell 0, (k1.ext h).cell 1, (k2.ext h).cell 0, (k2.ext h).cell 1, (k4.ext h).cell 0, (k4.ext h).cell 1⟩
  have HK2 : Hid (∀ w' w'', w'.grownBy w'' (some (w.heap.size + 1 + 1)) → Ext W2 w' → Ext w w'' ∧ w''.cell? ⟨w.heap.size, 0, none⟩ = some (.bool s1) ∧ w''.cell? ⟨w.heap.size, 1, none⟩ = some (.slice A1 n1 c1) ∧ w''.cell? ⟨w.heap.size + 1, 0, none⟩ = some (.bool s2) ∧ w''.cell? ⟨w.heap.size + 1, 1, none⟩ = some (.slice A2 n2 c2) ∧ w''.cell? ⟨G, 0, none⟩ = some (.bool s) ∧ w''.cell? ⟨G, 1, none⟩ = some (.slice A n c)) := fun w' w'' hg h => ⟨(k5.trans h).grown hg (by intro k hk; injection hk with hk; omega), (hg.cell_far ⟨w.heap.size, 0, none⟩ (k1.ext h).lt (by first | (simp; done) | (simp; omega))).trans ((k1.ext h).cell 0), (hg.cell_far ⟨w.heap.size, 1, none⟩ (k1.ext h).lt (by first | (simp; done) | (simp; omega))).trans ((k1.ext h).cell 1), (hg.cell_far ⟨w.heap.size + 1, 0, none⟩ (k2.ext h).lt (by first | (simp; done) | (simp; omega))).trans ((k2.ext h).cell 0), (hg.cell_far ⟨w.heap.size + 1, 1, none⟩ (k2.ext h).lt (by first | (simp; done) | (simp; omega))).trans ((k2.ext h).cell 1), (hg.cell_far ⟨G, 0, none⟩ (k4.ext h).lt (by first | (simp; done) | (simp; omega))).trans ((k4.ext h).cell 0), (hg.cell_far ⟨G, 1, none⟩ (k4.ext h).lt (by first | (simp; done) | (simp; omega))).trans ((k4.ext h).cell 1)⟩
  refine (CS.out _ k5).mono ?_
  rintro e w2 ⟨rfl, he2⟩
  have hgb := gcd_le_den x hd0
  have M1 := Lib.hid (mk_num x hd0)
  have M2 := Lib.hid (mk_den x hd0)
  generalize Int.gcd x d = g at *
  have hg0 : ((g : Nat) : Int) ≠ 0 := by omega
  have hg32 : ((g : Nat) : Int).natAbs ≤ 18446744073709551615 := by omega
  have hd32 : ((d : Nat) : Int).natAbs ≤ 18446744073709551615 := by omega
  have p2 := HK.out w2 he2
  go_wp2_with fail
  clear p2
  go_region_held3 (fun w' => Ext w w' ∧ w'.cell? ⟨w.heap.size, 0, none⟩ = some (.bool s1) ∧ w'.cell? ⟨w.heap.size, 1, none⟩ = some (.slice A1 n1 c1) ∧ w'.cell? ⟨w.heap.size + 1, 0, none⟩ = some (.bool s2) ∧ w'.cell? ⟨w.heap.size + 1, 1, none⟩ = some (.slice A2 n2 c2) ∧ w'.cell? ⟨G, 0, none⟩ = some (.bool s) ∧ w'.cell? ⟨G, 1, none⟩ = some (.slice A n c))
    (first | (refine HK.out _ ?_; (repeat (first | with_reducible assumption | with_reducible exact Ext.refl _ | with_reducible refine Ext.drew ?_ | with_reducible refine Ext.drewN ?_ _ | with_reducible refine Ext.alloc ?_ _ | with_reducible refine Ext.set2 ?_ (by omega) _ _ | with_reducible refine Ext.setCell ?_ (by first | omega | (simp; done) | (simp; omega)) _ | with_reducible refine Ext.trans ?_ (by with_reducible assumption))); done) | exact HK2.out _ _ (by (repeat (first | apply grow_set | exact World.grownBy.refl _ _))) (by (repeat (first | with_reducible assumption | with_reducible exact Ext.refl _ | with_reducible refine Ext.drew ?_ | with_reducible refine Ext.drewN ?_ _ | with_reducible refine Ext.alloc ?_ _ | with_reducible refine Ext.set2 ?_ (by omega) _ _ | with_reducible refine Ext.setCell ?_ (by first | omega | (simp; done) | (simp; omega)) _ | with_reducible refine Ext.trans ?_ (by with_reducible assumption)))))
    (first | (go_at_call 122; (with_reducible refine (iDiv1_any _ _ _ _ x g _ hx hg32 hg0 (H1.out.ext (by (repeat (first | with_reducible assumption | with_reducible exact Ext.refl _ | with_reducible refine Ext.drew ?_ | with_reducible refine Ext.drewN ?_ _ | with_reducible refine Ext.alloc ?_ _ | with_reducible refine Ext.set2 ?_ (by omega) _ _ | with_reducible refine Ext.setCell ?_ (by first | omega | (simp; done) | (simp; omega)) _ | with_reducible refine Ext.trans ?_ (by with_reducible assumption))))) (k6.ext (by (repeat (first | with_reducible assumption | with_reducible exact Ext.refl _ | with_reducible refine Ext.drew ?_ | with_reducible refine Ext.drewN ?_ _ | with_reducible refine Ext.alloc ?_ _ | with_reducible refine Ext.set2 ?_ (by omega) _ _ | with_reducible refine Ext.setCell ?_ (by first | omega | (simp; done) | (simp; omega)) _ | with_reducible refine Ext.trans ?_ (by with_reducible assumption)))))).mono ?_); rintro e w3 ⟨s3, A3, n3, c3, rfl, hm3, he3⟩) | (go_at_call 122; (with_reducible refine (iDiv1_any _ _ _ _ (d : Int) g _ hd32 hg32 hg0 (H2.out.ext (by (repeat (first | with_reducible assumption | with_reducible exact Ext.refl _ | with_reducible refine Ext.drew ?_ | with_reducible refine Ext.drewN ?_ _ | with_reducible refine Ext.alloc ?_ _ | with_reducible refine Ext.set2 ?_ (by omega) _ _ | with_reducible refine Ext.setCell ?_ (by first | omega | (simp; done) | (simp; omega)) _ | with_reducible refine Ext.trans ?_ (by with_reducible assumption))))) (k6.ext (by (repeat (first | with_reducible assumption | with_reducible exact Ext.refl _ | with_reducible refine Ext.drew ?_ | with_reducible refine Ext.drewN ?_ _ | with_reducible refine Ext.alloc ?_ _ | with_reducible refine Ext.set2 ?_ (by omega) _ _ | with_reducible refine Ext.setCell ?_ (by first | omega | (simp; done) | (simp; omega)) _ | with_reducible refine Ext.trans ?_ (by with_reducible assumption)))))).mono ?_); rintro e w5 ⟨s5, A5, n5, c5, rfl, hm5, he5⟩; have hq5 := (k3.ext (show Ext W2 w5 by (repeat (first | with_reducible assumption | with_reducible exact Ext.refl _ | with_reducible refine Ext.drew ?_ | with_reducible refine Ext.drewN ?_ _ | with_reducible refine Ext.alloc ?_ _ | with_reducible refine Ext.set2 ?_ (by omega) _ _ | with_reducible refine Ext.setCell ?_ (by first | omega | (simp; done) | (simp; omega)) _ | with_reducible refine Ext.trans ?_ (by with_reducible assumption))))).four))
  go_wp2
  refine bodyPost_ret (v := .tuple #[.agg #[.bool s3, .slice A3 n3 c3, .bool s5, .slice A5 n5 c5], .int .i64 0]) (by simp [results, Tryz.results89, go_sem, hq5]) rfl ?_
  have hEE : Ext W2 w5 := by (repeat (first | with_reducible assumption | with_reducible exact Ext.refl _ | with_reducible refine Ext.drew ?_ | with_reducible refine Ext.drewN ?_ _ | with_reducible refine Ext.alloc ?_ _ | with_reducible refine Ext.set2 ?_ (by omega) _ _ | with_reducible refine Ext.setCell ?_ (by first | omega | (simp; done) | (simp; omega)) _ | with_reducible refine Ext.trans ?_ (by with_reducible assumption)))
  rw [M1.out] at hm3
  rw [M2.out] at hm5
  exact RRatE.close k5 hEE k3 (by omega) (hm3.ext (by (repeat (first | with_reducible assumption | with_reducible exact Ext.refl _ | with_reducible refine Ext.drew ?_ | with_reducible refine Ext.drewN ?_ _ | with_reducible refine Ext.alloc ?_ _ | with_reducible refine Ext.set2 ?_ (by omega) _ _ | with_reducible refine Ext.setCell ?_ (by first | omega | (simp; done) | (simp; omega)) _ | with_reducible refine Ext.trans ?_ (by with_reducible assumption))))) hm5

set_option maxRecDepth 100000 in
set_option maxHeartbeats 1000000 in
theorem over_any (b1 v1 b2 v2 : Value) (x : Int) (d : Nat) (w : World) (hx : x.natAbs ≤ 18446744073709551615) (hd0 : 0 < d) (hd : d ≤ 18446744073709551615) (h1 : IsInt w b1 v1 x) (h2 : IsInt w b2 v2 (d : Int)) :
    Calls Tryz.prog 42 #[.agg #[b1, v1], .agg #[b2, v2]] w (RRat w (mkRat x d)) := by
  obtain ⟨s1, A1, n1, c1, rfl, rfl, -, -, -⟩ := h1.form
  obtain ⟨s2, A2, n2, c2, rfl, rfl, -, -, -⟩ := h2.form
  have H1 := Lib.hid h1
  have H2 := Lib.hid h2
  clear h1 h2
  go_enter Tryz.func42, Tryz.ntmps42
  go_wp2_with fail
  obtain ⟨W, hW⟩ : ∃ W : World, W = ((w.alloc (.cells #[.bool s1, .slice A1 n1 c1] 37)).alloc (.cells #[.bool s2, .slice A2 n2 c2] 37)).alloc (.cells #[.bool false, .slice none 0 0, .bool false, .slice none 0 0] 39) := ⟨_, rfl⟩
  rw [← hW]
  have hE : Ext w W := by rw [hW]; exact (((Ext.refl w).alloc _).alloc _).alloc _
  have hB1 : Blk W (w.heap.size) 37 #[.bool s1, .slice A1 n1 c1] := by rw [hW]; exact ((Blk.newAt _ _ _ (by simp)).alloc _).alloc _
  have hB2 : Blk W (w.heap.size + 1) 37 #[.bool s2, .slice A2 n2 c2] := by rw [hW]; exact (Blk.newAt _ _ _ (by simp)).alloc _
  have hB3 : Blk W (w.heap.size + 1 + 1) 39 #[.bool false, .slice none 0 0, .bool false, .slice none 0 0] := by rw [hW]; exact Blk.newAt _ _ _ (by simp)
  clear hW
  have HK : Hid (∀ w', Ext W w' → Ext w w' ∧ w'.cell? ⟨w.heap.size, 0, none⟩ = some (.bool s1) ∧ w'.cell? ⟨w.heap.size, 1, none⟩ = some (.slice A1 n1 c1) ∧ w'.cell? ⟨w.heap.size + 1, 0, none⟩ = some (.bool s2) ∧ w'.cell? ⟨w.heap.size + 1, 1, none⟩ = some (.slice A2 n2 c2)) := fun w' h => ⟨hE.trans h, (hB1.ext h).cell 0, (hB1.ext h).cell 1, (hB2.ext h).cell 0, (hB2.ext h).cell 1⟩
  have HK2 : Hid (∀ w' w'', w'.grownBy w'' (some (w.heap.size + 1 + 1)) → Ext W w' → Ext w w'' ∧ w''.cell? ⟨w.heap.size, 0, none⟩ = some (.bool s1) ∧ w''.cell? ⟨w.heap.size, 1, none⟩ = some (.slice A1 n1 c1) ∧ w''.cell? ⟨w.heap.size + 1, 0, none⟩ = some (.bool s2) ∧ w''.cell? ⟨w.heap.size + 1, 1, none⟩ = some (.slice A2 n2 c2)) := fun w' w'' hg h => ⟨(hE.trans h).grown hg (by intro k hk; injection hk with hk; omega), (hg.cell_far ⟨w.heap.size, 0, none⟩ (hB1.ext h).lt (by first | (simp; done) | (simp; omega))).trans ((hB1.ext h).cell 0), (hg.cell_far ⟨w.heap.size, 1, none⟩ (hB1.ext h).lt (by first | (simp; done) | (simp; omega))).trans ((hB1.ext h).cell 1), (hg.cell_far ⟨w.heap.size + 1, 0, none⟩ (hB2.ext h).lt (by first | (simp; done) | (simp; omega))).trans ((hB2.ext h).cell 0), (hg.cell_far ⟨w.heap.size + 1, 1, none⟩ (hB2.ext h).lt (by first | (simp; done) | (simp; omega))).trans ((hB2.ext h).cell 1)⟩
  refine (New1_any _ _ _ _ x d _ hx hd0 hd (H1.out.ext hE) (H2.out.ext hE)).mono ?_
  rintro e w3 ⟨s, A, n, c, s', A', n', c', rfl, hq, he3⟩
  have hl3 := (hB3.ext he3).lt
  have hne : ¬ w3.heap.size = w.heap.size + 1 + 1 := by omega
  have hq3 := (hB3.ext he3).four
  go_upto_region 2 with fail
  obtain ⟨W2, hW2⟩ : ∃ W2 : World, W2 = w3.alloc (.cells #[.bool s, .slice A n c, .bool s', .slice A' n' c'] 39) := ⟨_, rfl⟩
  rw [← hW2]
  have k3 : Blk W2 (w.heap.size + 1 + 1) 39 #[.bool false, .slice none 0 0, .bool false, .slice none 0 0] := by rw [hW2]; exact (hB3.ext he3).alloc _
  have k4 : Blk W2 w3.heap.size 39 #[.bool s, .slice A n c, .bool s', .slice A' n' c'] := by rw [hW2]; exact Blk.newAt _ _ _ rfl
  have k5 : Ext w W2 := by rw [hW2]; exact (hE.trans he3).alloc _
  have k6 : IsRat W2 (.bool s) (.slice A n c) (.bool s') (.slice A' n' c') (mkRat x d) := by rw [hW2]; exact ⟨hq.1.alloc _, hq.2.alloc _⟩
  clear hW2 hB1 hB2 hB3 HK HK2 hq hq3
  generalize w3.heap.size = G at *
  have q3 := k3.four
  have q4 := k4.four
  go_wp2
  refine bodyPost_ret (v := .agg #[.bool s, .slice A n c, .bool s', .slice A' n' c']) (by simp [results, Tryz.results42, go_sem, q3]) rfl ?_
  exact RRat.close k5 (Ext.refl _) k3 (by omega) k6.1 k6.2

end Go.Proofs.YtekipapkcgoieaaGreatDoor

/- Fractions: sums, products, of both programs. -/
namespace Go.Proofs.YtekipapkcgoieaaGreatDoor
open Go.RowKit
attribute [local go_sem ↓] Go.wp_at_zero Go.wp_at_succ

set_option maxRecDepth 100000 in
set_option maxHeartbeats 2000000 in
theorem radd_any (b1 v1 b2 v2 b3 v3 b4 v4 : Value) (p q : Rat) (w : World) (hx : p.num.natAbs ≤ 18446744073709551615) (hy : q.num.natAbs ≤ 18446744073709551615) (hd : p.den * q.den < 4294967296) (hn : (p.num * q.den + q.num * p.den).natAbs ≤ 18446744073709551615)
    (h1 : IsRat w b1 v1 b2 v2 p) (h2 : IsRat w b3 v3 b4 v4 q) :
    Calls Tryz.prog 36 #[.agg #[b1, v1, b2, v2], .agg #[b3, v3, b4, v4]] w (RRat w (p + q)) := by
  obtain ⟨s1, A1, n1, c1, s2, A2, n2, c2, rfl, rfl, rfl, rfl⟩ := h1.form
  obtain ⟨s3, A3, n3, c3, s4, A4, n4, c4, rfl, rfl, rfl, rfl⟩ := h2.form
  have P1 := Lib.hid h1.1
  have P2 := Lib.hid h1.2
  have Q1 := Lib.hid h2.1
  have Q2 := Lib.hid h2.2
  have HF := Lib.hid (Rat.add_def' p q)
  have hp0 := Rat.den_pos p
  have hq0 := Rat.den_pos q
  clear h1 h2
  generalize p.num = x at *
  generalize q.num = y at *
  generalize p.den = d at *
  generalize q.den = f at *
  have hd0 : 0 < d * f := Nat.mul_pos hp0 hq0
  have hd1 : d < 4294967296 := Nat.lt_of_le_of_lt (Nat.le_mul_of_pos_right d hq0) hd
  have hf1 : f < 4294967296 := Nat.lt_of_le_of_lt (Nat.le_mul_of_pos_left f hp0) hd
  have lx : (wordsOf x.natAbs).length ≤ 2 := wordsOf_len2 (by omega)
  have ly : (wordsOf y.natAbs).length ≤ 2 := wordsOf_len2 (by omega)
  have ld : (wordsOf ((d : Nat) : Int).natAbs).length ≤ 2 := wordsOf_len2 (by omega)
  have lf : (wordsOf ((f : Nat) : Int).natAbs).length ≤ 2 := wordsOf_len2 (by omega)
  have l1 : (wordsOf (x * f).natAbs).length ≤ 4 := by rw [Int.natAbs_mul]; have := wordsOf_len_mul x.natAbs ((f : Nat) : Int).natAbs; omega
  have l2 : (wordsOf (y * d).natAbs).length ≤ 4 := by rw [Int.natAbs_mul]; have := wordsOf_len_mul y.natAbs ((d : Nat) : Int).natAbs; omega
  have hl6 : (wordsOf (x * f + y * d).natAbs).length ≤ 1000 := by have := wordsOf_len2 (m := (x * f + y * d).natAbs) (by omega); omega
  go_enter Tryz.func36, Tryz.ntmps36
  go_wp2_with fail
  obtain ⟨W, hW⟩ : ∃ W : World, W = ((w.alloc (.cells #[.bool s1, .slice A1 n1 c1, .bool s2, .slice A2 n2 c2] 39)).alloc (.cells #[.bool s3, .slice A3 n3 c3, .bool s4, .slice A4 n4 c4] 39)).alloc (.cells #[.bool false, .slice none 0 0, .bool false, .slice none 0 0] 39) := ⟨_, rfl⟩
  rw [← hW]
  have hE : Ext w W := by rw [hW]; exact (((Ext.refl w).alloc _).alloc _).alloc _
  have hB1 : Blk W (w.heap.size) 39 #[.bool s1, .slice A1 n1 c1, .bool s2, .slice A2 n2 c2] := by rw [hW]; exact ((Blk.newAt _ _ _ (by simp)).alloc _).alloc _
  have hB2 : Blk W (w.heap.size + 1) 39 #[.bool s3, .slice A3 n3 c3, .bool s4, .slice A4 n4 c4] := by rw [hW]; exact (Blk.newAt _ _ _ (by simp)).alloc _
  have hB3 : Blk W (w.heap.size + 1 + 1) 39 #[.bool false, .slice none 0 0, .bool false, .slice none 0 0] := by rw [hW]; exact Blk.newAt _ _ _ (by simp)
  clear hW
  have HK : Hid (∀ w', Ext W w' → Ext w w' ∧ w'.cell? ⟨w.heap.size, 0, none⟩ = some (.bool s1) ∧ w'.cell? ⟨w.heap.size, 1, none⟩ = some (.slice A1 n1 c1) ∧ w'.cell? ⟨w.heap.size, 2, none⟩ = some (.bool s2) ∧ w'.cell? ⟨w.heap.size, 3, none⟩ = some (.slice A2 n2 c2) ∧ w'.cell? ⟨w.heap.size + 1, 0, none⟩ = some (.bool s3) ∧ w'.cell? ⟨w.heap.size + 1, 1, none⟩ = some (.slice A3 n3 c3) ∧ w'.cell? ⟨w.heap.size + 1, 2, none⟩ = some (.bool s4) ∧ w'.cell? ⟨w.heap.size + 1, 3, none⟩ = some (.slice A4 n4 c4)) := fun w' h => ⟨hE.trans h, (hB1.ext h).cell 0, (hB1.ext h).cell 1, (hB1.ext h).cell 2, (hB1.ext h).cell 3, (hB2.ext h).cell 0, (hB2.ext h).cell 1, (hB2.ext h).cell 2, (hB2.ext h).cell 3⟩
  have HK2 : Hid (∀ w' w'', w'.grownBy w'' (some (w.heap.size + 1 + 1)) → Ext W w' → Ext w w'' ∧ w''.cell? ⟨w.heap.size, 0, none⟩ = some (.bool s1) ∧ w''.cell? ⟨w.heap.size, 1, none⟩ = some (.slice A1 n1 c1) ∧ w''.cell? ⟨w.heap.size, 2, none⟩ = some (.bool s2) ∧ w''.cell? ⟨w.heap.size, 3, none⟩ = some (.slice A2 n2 c2) ∧ w''.cell? ⟨w.heap.size + 1, 0, none⟩ = some (.bool s3) ∧ w''.cell? ⟨w.heap.size + 1, 1, none⟩ = some (.slice A3 n3 c3) ∧ w''.cell? ⟨w.heap.size + 1, 2, none⟩ = some (.bool s4) ∧ w''.cell? ⟨w.heap.size + 1, 3, none⟩ = some (.slice A4 n4 c4)) := fun w' w'' hg h => ⟨(hE.trans h).grown hg (by intro k hk; injection hk with hk; omega), (hg.cell_far ⟨w.heap.size, 0, none⟩ (hB1.ext h).lt (by first | (simp; done) | (simp; omega))).trans ((hB1.ext h).cell 0), (hg.cell_far ⟨w.heap.size, 1, none⟩ (hB1.ext h).lt (by first | (simp; done) | (simp; omega))).trans ((hB1.ext h).cell 1), (hg.cell_far ⟨w.heap.size, 2, none⟩ (hB1.ext h).lt (by first | (simp; done) | (simp; omega))).trans ((hB1.ext h).cell 2), (hg.cell_far ⟨w.heap.size, 3, none⟩ (hB1.ext h).lt (by first | (simp; done) | (simp; omega))).trans ((hB1.ext h).cell 3), (hg.cell_far ⟨w.heap.size + 1, 0, none⟩ (hB2.ext h).lt (by first | (simp; done) | (simp; omega))).trans ((hB2.ext h).cell 0), (hg.cell_far ⟨w.heap.size + 1, 1, none⟩ (hB2.ext h).lt (by first | (simp; done) | (simp; omega))).trans ((hB2.ext h).cell 1), (hg.cell_far ⟨w.heap.size + 1, 2, none⟩ (hB2.ext h).lt (by first | (simp; done) | (simp; omega))).trans ((hB2.ext h).cell 2), (hg.cell_far ⟨w.heap.size + 1, 3, none⟩ (hB2.ext h).lt (by first | (simp; done) | (simp; omega))).trans ((hB2.ext h).cell 3)⟩
  go_region_held3 (fun w' => Ext w w' ∧ w'.cell? ⟨w.heap.size, 0, none⟩ = some (.bool s1) ∧ w'.cell? ⟨w.heap.size, 1, none⟩ = some (.slice A1 n1 c1) ∧ w'.cell? ⟨w.heap.size, 2, none⟩ = some (.bool s2) ∧ w'.cell? ⟨w.heap.size, 3, none⟩ = some (.slice A2 n2 c2) ∧ w'.cell? ⟨w.heap.size + 1, 0, none⟩ = some (.bool s3) ∧ w'.cell? ⟨w.heap.size + 1, 1, none⟩ = some (.slice A3 n3 c3) ∧ w'.cell? ⟨w.heap.size + 1, 2, none⟩ = some (.bool s4) ∧ w'.cell? ⟨w.heap.size + 1, 3, none⟩ = some (.slice A4 n4 c4))
    (first | (refine HK.out _ ?_; (repeat (first | with_reducible assumption | with_reducible exact Ext.refl _ | with_reducible refine Ext.drew ?_ | with_reducible refine Ext.drewN ?_ _ | with_reducible refine Ext.alloc ?_ _ | with_reducible refine Ext.set2 ?_ (by omega) _ _ | with_reducible refine Ext.setCell ?_ (by first | omega | (simp; done) | (simp; omega)) _ | with_reducible refine Ext.trans ?_ (by with_reducible assumption))); done) | exact HK2.out _ _ (by (repeat (first | apply grow_set | exact World.grownBy.refl _ _))) (by (repeat (first | with_reducible assumption | with_reducible exact Ext.refl _ | with_reducible refine Ext.drew ?_ | with_reducible refine Ext.drewN ?_ _ | with_reducible refine Ext.alloc ?_ _ | with_reducible refine Ext.set2 ?_ (by omega) _ _ | with_reducible refine Ext.setCell ?_ (by first | omega | (simp; done) | (simp; omega)) _ | with_reducible refine Ext.trans ?_ (by with_reducible assumption)))))
    (first | (go_at_call 78; (with_reducible refine (iMul_any _ _ _ _ x f _ (by omega) (by omega) (P1.out.ext (by (repeat (first | with_reducible assumption | with_reducible exact Ext.refl _ | with_reducible refine Ext.drew ?_ | with_reducible refine Ext.drewN ?_ _ | with_reducible refine Ext.alloc ?_ _ | with_reducible refine Ext.set2 ?_ (by omega) _ _ | with_reducible refine Ext.setCell ?_ (by first | omega | (simp; done) | (simp; omega)) _ | with_reducible refine Ext.trans ?_ (by with_reducible assumption))))) (Q2.out.ext (by (repeat (first | with_reducible assumption | with_reducible exact Ext.refl _ | with_reducible refine Ext.drew ?_ | with_reducible refine Ext.drewN ?_ _ | with_reducible refine Ext.alloc ?_ _ | with_reducible refine Ext.set2 ?_ (by omega) _ _ | with_reducible refine Ext.setCell ?_ (by first | omega | (simp; done) | (simp; omega)) _ | with_reducible refine Ext.trans ?_ (by with_reducible assumption)))))).mono ?_); rintro e w2 ⟨t2, B2, m2, k2, rfl, hm2, he2⟩) | (go_at_call 78; (with_reducible refine (iMul_any _ _ _ _ y d _ (by omega) (by omega) (Q1.out.ext (by (repeat (first | with_reducible assumption | with_reducible exact Ext.refl _ | with_reducible refine Ext.drew ?_ | with_reducible refine Ext.drewN ?_ _ | with_reducible refine Ext.alloc ?_ _ | with_reducible refine Ext.set2 ?_ (by omega) _ _ | with_reducible refine Ext.setCell ?_ (by first | omega | (simp; done) | (simp; omega)) _ | with_reducible refine Ext.trans ?_ (by with_reducible assumption))))) (P2.out.ext (by (repeat (first | with_reducible assumption | with_reducible exact Ext.refl _ | with_reducible refine Ext.drew ?_ | with_reducible refine Ext.drewN ?_ _ | with_reducible refine Ext.alloc ?_ _ | with_reducible refine Ext.set2 ?_ (by omega) _ _ | with_reducible refine Ext.setCell ?_ (by first | omega | (simp; done) | (simp; omega)) _ | with_reducible refine Ext.trans ?_ (by with_reducible assumption)))))).mono ?_); rintro e w3 ⟨t3, B3, m3, k3, rfl, hm3, he3⟩) | (go_at_call 77; (with_reducible refine (iAdd_any _ _ _ _ _ _ _ (by omega) (by omega) (hm2.ext (by (repeat (first | with_reducible assumption | with_reducible exact Ext.refl _ | with_reducible refine Ext.drew ?_ | with_reducible refine Ext.drewN ?_ _ | with_reducible refine Ext.alloc ?_ _ | with_reducible refine Ext.set2 ?_ (by omega) _ _ | with_reducible refine Ext.setCell ?_ (by first | omega | (simp; done) | (simp; omega)) _ | with_reducible refine Ext.trans ?_ (by with_reducible assumption))))) hm3).mono ?_); rintro e w4 ⟨t4, B4, m4, k4, rfl, hm4, he4⟩) | (go_at_call 78; (with_reducible refine (iMul_any _ _ _ _ d f _ (by omega) (by omega) (P2.out.ext (by (repeat (first | with_reducible assumption | with_reducible exact Ext.refl _ | with_reducible refine Ext.drew ?_ | with_reducible refine Ext.drewN ?_ _ | with_reducible refine Ext.alloc ?_ _ | with_reducible refine Ext.set2 ?_ (by omega) _ _ | with_reducible refine Ext.setCell ?_ (by first | omega | (simp; done) | (simp; omega)) _ | with_reducible refine Ext.trans ?_ (by with_reducible assumption))))) (Q2.out.ext (by (repeat (first | with_reducible assumption | with_reducible exact Ext.refl _ | with_reducible refine Ext.drew ?_ | with_reducible refine Ext.drewN ?_ _ | with_reducible refine Ext.alloc ?_ _ | with_reducible refine Ext.set2 ?_ (by omega) _ _ | with_reducible refine Ext.setCell ?_ (by first | omega | (simp; done) | (simp; omega)) _ | with_reducible refine Ext.trans ?_ (by with_reducible assumption)))))).mono ?_); rintro e w5 ⟨t5, B5, m5, k5, rfl, hm5, he5⟩; rw [← Int.natCast_mul] at hm5) | (go_at_call 76; (with_reducible refine (reduced_any _ _ _ _ _ _ _ hl6 hd0 hd (hm4.ext (by (repeat (first | with_reducible assumption | with_reducible exact Ext.refl _ | with_reducible refine Ext.drew ?_ | with_reducible refine Ext.drewN ?_ _ | with_reducible refine Ext.alloc ?_ _ | with_reducible refine Ext.set2 ?_ (by omega) _ _ | with_reducible refine Ext.setCell ?_ (by first | omega | (simp; done) | (simp; omega)) _ | with_reducible refine Ext.trans ?_ (by with_reducible assumption))))) hm5).mono ?_); rintro e w6 ⟨s, A, n, c, s', A', n', c', rfl, hm6, he6⟩; have hq6 := (hB3.ext (show Ext W w6 by (repeat (first | with_reducible assumption | with_reducible exact Ext.refl _ | with_reducible refine Ext.drew ?_ | with_reducible refine Ext.drewN ?_ _ | with_reducible refine Ext.alloc ?_ _ | with_reducible refine Ext.set2 ?_ (by omega) _ _ | with_reducible refine Ext.setCell ?_ (by first | omega | (simp; done) | (simp; omega)) _ | with_reducible refine Ext.trans ?_ (by with_reducible assumption))))).four))
  go_wp2
  refine bodyPost_ret (v := .agg #[.bool s, .slice A n c, .bool s', .slice A' n' c']) (by simp [results, Tryz.results36, go_sem, hq6]) rfl ?_
  have hEE : Ext W w6 := by (repeat (first | with_reducible assumption | with_reducible exact Ext.refl _ | with_reducible refine Ext.drew ?_ | with_reducible refine Ext.drewN ?_ _ | with_reducible refine Ext.alloc ?_ _ | with_reducible refine Ext.set2 ?_ (by omega) _ _ | with_reducible refine Ext.setCell ?_ (by first | omega | (simp; done) | (simp; omega)) _ | with_reducible refine Ext.trans ?_ (by with_reducible assumption)))
  rw [← HF.out] at hm6
  exact RRat.close hE hEE hB3 (by omega) hm6.1 hm6.2
set_option maxRecDepth 100000 in
set_option maxHeartbeats 2000000 in
theorem radd1_any (b1 v1 b2 v2 b3 v3 b4 v4 : Value) (p q : Rat) (w : World) (hx : p.num.natAbs ≤ 18446744073709551615) (hy : q.num.natAbs ≤ 18446744073709551615) (hd : p.den * q.den < 4294967296) (hn : (p.num * q.den + q.num * p.den).natAbs ≤ 18446744073709551615)
    (h1 : IsRat w b1 v1 b2 v2 p) (h2 : IsRat w b3 v3 b4 v4 q) :
    Calls Tryz.prog 14 #[.agg #[b1, v1, b2, v2], .agg #[b3, v3, b4, v4]] w (RRat w (p + q)) := by
  obtain ⟨s1, A1, n1, c1, s2, A2, n2, c2, rfl, rfl, rfl, rfl⟩ := h1.form
  obtain ⟨s3, A3, n3, c3, s4, A4, n4, c4, rfl, rfl, rfl, rfl⟩ := h2.form
  have P1 := Lib.hid h1.1
  have P2 := Lib.hid h1.2
  have Q1 := Lib.hid h2.1
  have Q2 := Lib.hid h2.2
  have HF := Lib.hid (Rat.add_def' p q)
  have hp0 := Rat.den_pos p
  have hq0 := Rat.den_pos q
  clear h1 h2
  generalize p.num = x at *
  generalize q.num = y at *
  generalize p.den = d at *
  generalize q.den = f at *
  have hd0 : 0 < d * f := Nat.mul_pos hp0 hq0
  have hd1 : d < 4294967296 := Nat.lt_of_le_of_lt (Nat.le_mul_of_pos_right d hq0) hd
  have hf1 : f < 4294967296 := Nat.lt_of_le_of_lt (Nat.le_mul_of_pos_left f hp0) hd
  have lx : (wordsOf x.natAbs).length ≤ 2 := wordsOf_len2 (by omega)
  have ly : (wordsOf y.natAbs).length ≤ 2 := wordsOf_len2 (by omega)
  have ld : (wordsOf ((d : Nat) : Int).natAbs).length ≤ 2 := wordsOf_len2 (by omega)
  have lf : (wordsOf ((f : Nat) : Int).natAbs).length ≤ 2 := wordsOf_len2 (by omega)
  have l1 : (wordsOf (x * f).natAbs).length ≤ 4 := by rw [Int.natAbs_mul]; have := wordsOf_len_mul x.natAbs ((f : Nat) : Int).natAbs; omega
  have l2 : (wordsOf (y * d).natAbs).length ≤ 4 := by rw [Int.natAbs_mul]; have := wordsOf_len_mul y.natAbs ((d : Nat) : Int).natAbs; omega
  have hl6 : (wordsOf (x * f + y * d).natAbs).length ≤ 1000 := by have := wordsOf_len2 (m := (x * f + y * d).natAbs) (by omega); omega
  go_enter Tryz.func14, Tryz.ntmps14
  go_wp2_with fail
  obtain ⟨W, hW⟩ : ∃ W : World, W = ((w.alloc (.cells #[.bool s1, .slice A1 n1 c1, .bool s2, .slice A2 n2 c2] 39)).alloc (.cells #[.bool s3, .slice A3 n3 c3, .bool s4, .slice A4 n4 c4] 39)).alloc (.cells #[.bool false, .slice none 0 0, .bool false, .slice none 0 0] 39) := ⟨_, rfl⟩
  rw [← hW]
  have hE : Ext w W := by rw [hW]; exact (((Ext.refl w).alloc _).alloc _).alloc _
  have hB1 : Blk W (w.heap.size) 39 #[.bool s1, .slice A1 n1 c1, .bool s2, .slice A2 n2 c2] := by rw [hW]; exact ((Blk.newAt _ _ _ (by simp)).alloc _).alloc _
  have hB2 : Blk W (w.heap.size + 1) 39 #[.bool s3, .slice A3 n3 c3, .bool s4, .slice A4 n4 c4] := by rw [hW]; exact (Blk.newAt _ _ _ (by simp)).alloc _
  have hB3 : Blk W (w.heap.size + 1 + 1) 39 #[.bool false, .slice none 0 0, .bool false, .slice none 0 0] := by rw [hW]; exact Blk.newAt _ _ _ (by simp)
  clear hW
  have HK : Hid (∀ w', Ext W w' → Ext w w' ∧ w'.cell? ⟨w.heap.size, 0, none⟩ = some (.bool s1) ∧ w'.cell? ⟨w.heap.size, 1, none⟩ = some (.slice A1 n1 c1) ∧ w'.cell? ⟨w.heap.size, 2, none⟩ = some (.bool s2) ∧ w'.cell? ⟨w.heap.size, 3, none⟩ = some (.slice A2 n2 c2) ∧ w'.cell? ⟨w.heap.size + 1, 0, none⟩ = some (.bool s3) ∧ w'.cell? ⟨w.heap.size + 1, 1, none⟩ = some (.slice A3 n3 c3) ∧ w'.cell? ⟨w.heap.size + 1, 2, none⟩ = some (.bool s4) ∧ w'.cell? ⟨w.heap.size + 1, 3, none⟩ = some (.slice A4 n4 c4)) := fun w' h => ⟨hE.trans h, (hB1.ext h).cell 0, (hB1.ext h).cell 1, (hB1.ext h).cell 2, (hB1.ext h).cell 3, (hB2.ext h).cell 0, (hB2.ext h).cell 1, (hB2.ext h).cell 2, (hB2.ext h).cell 3⟩
  have HK2 : Hid (∀ w' w'', w'.grownBy w'' (some (w.heap.size + 1 + 1)) → Ext W w' → Ext w w'' ∧ w''.cell? ⟨w.heap.size, 0, none⟩ = some (.bool s1) ∧ w''.cell? ⟨w.heap.size, 1, none⟩ = some (.slice A1 n1 c1) ∧ w''.cell? ⟨w.heap.size, 2, none⟩ = some (.bool s2) ∧ w''.cell? ⟨w.heap.size, 3, none⟩ = some (.slice A2 n2 c2) ∧ w''.cell? ⟨w.heap.size + 1, 0, none⟩ = some (.bool s3) ∧ w''.cell? ⟨w.heap.size + 1, 1, none⟩ = some (.slice A3 n3 c3) ∧ w''.cell? ⟨w.heap.size + 1, 2, none⟩ = some (.bool s4) ∧ w''.cell? ⟨w.heap.size + 1, 3, none⟩ = some (.slice A4 n4 c4)) := fun w' w'' hg h => ⟨(hE.trans h).grown hg (by intro k hk; injection hk with hk; omega), (hg.cell_far ⟨w.heap.size, 0, none⟩ (hB1.ext h).lt (by first | (simp; done) | (simp; omega))).trans ((hB1.ext h).cell 0), (hg.cell_far ⟨w.heap.size, 1, none⟩ (hB1.ext h).lt (by first | (simp; done) | (simp; omega))).trans ((hB1.ext h).cell 1), (hg.cell_far ⟨w.heap.size, 2, none⟩ (hB1.ext h).lt (by first | (simp; done) | (simp; omega))).trans ((hB1.ext h).cell 2), (hg.cell_far ⟨w.heap.size, 3, none⟩ (hB1.ext h).lt (by first | (simp; done) | (simp; omega))).trans ((hB1.ext h).cell 3), (hg.cell_far ⟨w.heap.size + 1, 0, none⟩ (hB2.ext h).lt (by first | (simp; done) | (simp; omega))).trans ((hB2.ext h).cell 0), (hg.cell_far ⟨w.heap.size + 1, 1, none⟩ (hB2.ext h).lt (by first | (simp; done) | (simp; omega))).trans ((hB2.ext h).cell 1), (hg.cell_far ⟨w.heap.size + 1, 2, none⟩ (hB2.ext h).lt (by first | (simp; done) | (simp; omega))).trans ((hB2.ext h).cell 2), (hg.cell_far ⟨w.heap.size + 1, 3, none⟩ (hB2.ext h).lt (by first | (simp; done) | (simp; omega))).trans ((hB2.ext h).cell 3)⟩
  go_region_held3 (fun w' => Ext w w' ∧ w'.cell? ⟨w.heap.size, 0, none⟩ = some (.bool s1) ∧ w'.cell? ⟨w.heap.size, 1, none⟩ = some (.slice A1 n1 c1) ∧ w'.cell? ⟨w.heap.size, 2, none⟩ = some (.bool s2) ∧ w'.cell? ⟨w.heap.size, 3, none⟩ = some (.slice A2 n2 c2) ∧ w'.cell? ⟨w.heap.size + 1, 0, none⟩ = some (.bool s3) ∧ w'.cell? ⟨w.heap.size + 1, 1, none⟩ = some (.slice A3 n3 c3) ∧ w'.cell? ⟨w.heap.size + 1, 2, none⟩ = some (.bool s4) ∧ w'.cell? ⟨w.heap.size + 1, 3, none⟩ = some (.slice A4 n4 c4))
    (first | (refine HK.out _ ?_; (repeat (first | with_reducible assumption | with_reducible exact Ext.refl _ | with_reducible refine Ext.drew ?_ | with_reducible refine Ext.drewN ?_ _ | with_reducible refine Ext.alloc ?_ _ | with_reducible refine Ext.set2 ?_ (by omega) _ _ | with_reducible refine Ext.setCell ?_ (by first | omega | (simp; done) | (simp; omega)) _ | with_reducible refine Ext.trans ?_ (by with_reducible assumption))); done) | exact HK2.out _ _ (by (repeat (first | apply grow_set | exact World.grownBy.refl _ _))) (by (repeat (first | with_reducible assumption | with_reducible exact Ext.refl _ | with_reducible refine Ext.drew ?_ | with_reducible refine Ext.drewN ?_ _ | with_reducible refine Ext.alloc ?_ _ | with_reducible refine Ext.set2 ?_ (by omega) _ _ | with_reducible refine Ext.setCell ?_ (by first | omega | (simp; done) | (simp; omega)) _ | with_reducible refine Ext.trans ?_ (by with_reducible assumption)))))
    (first | (go_at_call 43; (with_reducible refine (iMul1_any _ _ _ _ x f _ (by omega) (by omega) (P1.out.ext (by (repeat (first | with_reducible assumption | with_reducible exact Ext.refl _ | with_reducible refine Ext.drew ?_ | with_reducible refine Ext.drewN ?_ _ | with_reducible refine Ext.alloc ?_ _ | with_reducible refine Ext.set2 ?_ (by omega) _ _ | with_reducible refine Ext.setCell ?_ (by first | omega | (simp; done) | (simp; omega)) _ | with_reducible refine Ext.trans ?_ (by with_reducible assumption))))) (Q2.out.ext (by (repeat (first | with_reducible assumption | with_reducible exact Ext.refl _ | with_reducible refine Ext.drew ?_ | with_reducible refine Ext.drewN ?_ _ | with_reducible refine Ext.alloc ?_ _ | with_reducible refine Ext.set2 ?_ (by omega) _ _ | with_reducible refine Ext.setCell ?_ (by first | omega | (simp; done) | (simp; omega)) _ | with_reducible refine Ext.trans ?_ (by with_reducible assumption)))))).mono ?_); rintro e w2 ⟨t2, B2, m2, k2, rfl, hm2, he2⟩) | (go_at_call 43; (with_reducible refine (iMul1_any _ _ _ _ y d _ (by omega) (by omega) (Q1.out.ext (by (repeat (first | with_reducible assumption | with_reducible exact Ext.refl _ | with_reducible refine Ext.drew ?_ | with_reducible refine Ext.drewN ?_ _ | with_reducible refine Ext.alloc ?_ _ | with_reducible refine Ext.set2 ?_ (by omega) _ _ | with_reducible refine Ext.setCell ?_ (by first | omega | (simp; done) | (simp; omega)) _ | with_reducible refine Ext.trans ?_ (by with_reducible assumption))))) (P2.out.ext (by (repeat (first | with_reducible assumption | with_reducible exact Ext.refl _ | with_reducible refine Ext.drew ?_ | with_reducible refine Ext.drewN ?_ _ | with_reducible refine Ext.alloc ?_ _ | with_reducible refine Ext.set2 ?_ (by omega) _ _ | with_reducible refine Ext.setCell ?_ (by first | omega | (simp; done) | (simp; omega)) _ | with_reducible refine Ext.trans ?_ (by with_reducible assumption)))))).mono ?_); rintro e w3 ⟨t3, B3, m3, k3, rfl, hm3, he3⟩) | (go_at_call 20; (with_reducible refine (iAdd1_any _ _ _ _ _ _ _ (by omega) (by omega) (hm2.ext (by (repeat (first | with_reducible assumption | with_reducible exact Ext.refl _ | with_reducible refine Ext.drew ?_ | with_reducible refine Ext.drewN ?_ _ | with_reducible refine Ext.alloc ?_ _ | with_reducible refine Ext.set2 ?_ (by omega) _ _ | with_reducible refine Ext.setCell ?_ (by first | omega | (simp; done) | (simp; omega)) _ | with_reducible refine Ext.trans ?_ (by with_reducible assumption))))) hm3).mono ?_); rintro e w4 ⟨t4, B4, m4, k4, rfl, hm4, he4⟩) | (go_at_call 43; (with_reducible refine (iMul1_any _ _ _ _ d f _ (by omega) (by omega) (P2.out.ext (by (repeat (first | with_reducible assumption | with_reducible exact Ext.refl _ | with_reducible refine Ext.drew ?_ | with_reducible refine Ext.drewN ?_ _ | with_reducible refine Ext.alloc ?_ _ | with_reducible refine Ext.set2 ?_ (by omega) _ _ | with_reducible refine Ext.setCell ?_ (by first | omega | (simp; done) | (simp; omega)) _ | with_reducible refine Ext.trans ?_ (by with_reducible assumption))))) (Q2.out.ext (by (repeat (first | with_reducible assumption | with_reducible exact Ext.refl _ | with_reducible refine Ext.drew ?_ | with_reducible refine Ext.drewN ?_ _ | with_reducible refine Ext.alloc ?_ _ | with_reducible refine Ext.set2 ?_ (by omega) _ _ | with_reducible refine Ext.setCell ?_ (by first | omega | (simp; done) | (simp; omega)) _ | with_reducible refine Ext.trans ?_ (by with_reducible assumption)))))).mono ?_); rintro e w5 ⟨t5, B5, m5, k5, rfl, hm5, he5⟩; rw [← Int.natCast_mul] at hm5) | (go_at_call 42; (with_reducible refine (over_any _ _ _ _ _ _ _ hn hd0 (by omega) (hm4.ext (by (repeat (first | with_reducible assumption | with_reducible exact Ext.refl _ | with_reducible refine Ext.drew ?_ | with_reducible refine Ext.drewN ?_ _ | with_reducible refine Ext.alloc ?_ _ | with_reducible refine Ext.set2 ?_ (by omega) _ _ | with_reducible refine Ext.setCell ?_ (by first | omega | (simp; done) | (simp; omega)) _ | with_reducible refine Ext.trans ?_ (by with_reducible assumption))))) hm5).mono ?_); rintro e w6 ⟨s, A, n, c, s', A', n', c', rfl, hm6, he6⟩; have hq6 := (hB3.ext (show Ext W w6 by (repeat (first | with_reducible assumption | with_reducible exact Ext.refl _ | with_reducible refine Ext.drew ?_ | with_reducible refine Ext.drewN ?_ _ | with_reducible refine Ext.alloc ?_ _ | with_reducible refine Ext.set2 ?_ (by omega) _ _ | with_reducible refine Ext.setCell ?_ (by first | omega | (simp; done) | (simp; omega)) _ | with_reducible refine Ext.trans ?_ (by with_reducible assumption))))).four))
  go_wp2
  refine bodyPost_ret (v := .agg #[.bool s, .slice A n c, .bool s', .slice A' n' c']) (by simp [results, Tryz.results14, go_sem, hq6]) rfl ?_
  have hEE : Ext W w6 := by (repeat (first | with_reducible assumption | with_reducible exact Ext.refl _ | with_reducible refine Ext.drew ?_ | with_reducible refine Ext.drewN ?_ _ | with_reducible refine Ext.alloc ?_ _ | with_reducible refine Ext.set2 ?_ (by omega) _ _ | with_reducible refine Ext.setCell ?_ (by first | omega | (simp; done) | (simp; omega)) _ | with_reducible refine Ext.trans ?_ (by with_reducible assumption)))
  rw [← HF.out] at hm6
  exact RRat.close hE hEE hB3 (by omega) hm6.1 hm6.2

set_option maxRecDepth 100000 in
set_option maxHeartbeats 2000000 in
theorem rmul_any (b1 v1 b2 v2 b3 v3 b4 v4 : Value) (p q : Rat) (w : World) (hx : p.num.natAbs ≤ 18446744073709551615) (hy : q.num.natAbs ≤ 18446744073709551615) (hd : p.den * q.den < 4294967296) (hn : (p.num * q.num).natAbs ≤ 18446744073709551615)
    (h1 : IsRat w b1 v1 b2 v2 p) (h2 : IsRat w b3 v3 b4 v4 q) :
    Calls Tryz.prog 108 #[.agg #[b1, v1, b2, v2], .agg #[b3, v3, b4, v4]] w (RRat w (p * q)) := by
  obtain ⟨s1, A1, n1, c1, s2, A2, n2, c2, rfl, rfl, rfl, rfl⟩ := h1.form
  obtain ⟨s3, A3, n3, c3, s4, A4, n4, c4, rfl, rfl, rfl, rfl⟩ := h2.form
  have P1 := Lib.hid h1.1
  have P2 := Lib.hid h1.2
  have Q1 := Lib.hid h2.1
  have Q2 := Lib.hid h2.2
  have HF := Lib.hid (Rat.mul_def' p q)
  have hp0 := Rat.den_pos p
  have hq0 := Rat.den_pos q
  clear h1 h2
  generalize p.num = x at *
  generalize q.num = y at *
  generalize p.den = d at *
  generalize q.den = f at *
  have hd0 : 0 < d * f := Nat.mul_pos hp0 hq0
  have hd1 : d < 4294967296 := Nat.lt_of_le_of_lt (Nat.le_mul_of_pos_right d hq0) hd
  have hf1 : f < 4294967296 := Nat.lt_of_le_of_lt (Nat.le_mul_of_pos_left f hp0) hd
  have lx : (wordsOf x.natAbs).length ≤ 2 := wordsOf_len2 (by omega)
  have ly : (wordsOf y.natAbs).length ≤ 2 := wordsOf_len2 (by omega)
  have ld : (wordsOf ((d : Nat) : Int).natAbs).length ≤ 2 := wordsOf_len2 (by omega)
  have lf : (wordsOf ((f : Nat) : Int).natAbs).length ≤ 2 := wordsOf_len2 (by omega)
  have hl6 : (wordsOf (x * y).natAbs).length ≤ 1000 := by have := wordsOf_len2 (m := (x * y).natAbs) (by omega); omega
  go_enter Tryz.func108, Tryz.ntmps108
  go_wp2_with fail
  obtain ⟨W, hW⟩ : ∃ W : World, W = ((w.alloc (.cells #[.bool s1, .slice A1 n1 c1, .bool s2, .slice A2 n2 c2] 39)).alloc (.cells #[.bool s3, .slice A3 n3 c3, .bool s4, .slice A4 n4 c4] 39)).alloc (.cells #[.bool false, .slice none 0 0, .bool false, .slice none 0 0] 39) := ⟨_, rfl⟩
  rw [← hW]
  have hE : Ext w W := by rw [hW]; exact (((Ext.refl w).alloc _).alloc _).alloc _
  have hB1 : Blk W (w.heap.size) 39 #[.bool s1, .slice A1 n1 c1, .bool s2, .slice A2 n2 c2] := by rw [hW]; exact ((Blk.newAt _ _ _ (by simp)).alloc _).alloc _
  have hB2 : Blk W (w.heap.size + 1) 39 #[.bool s3, .slice A3 n3 c3, .bool s4, .slice A4 n4 c4] := by rw [hW]; exact (Blk.newAt _ _ _ (by simp)).alloc _
  have hB3 : Blk W (w.heap.size + 1 + 1) 39 #[.bool false, .slice none 0 0, .bool false, .slice none 0 0] := by rw [hW]; exact Blk.newAt _ _ _ (by simp)
  clear hW
  have HK : Hid (∀ w', Ext W w' → Ext w w' ∧ w'.cell? ⟨w.heap.size, 0, none⟩ = some (.bool s1) ∧ w'.cell? ⟨w.heap.size, 1, none⟩ = some (.slice A1 n1 c1) ∧ w'.cell? ⟨w.heap.size, 2, none⟩ = some (.bool s2) ∧ w'.cell? ⟨w.heap.size, 3, none⟩ = some (.slice A2 n2 c2) ∧ w'.cell? ⟨w.heap.size + 1, 0, none⟩ = some (.bool s3) ∧ w'.cell? ⟨w.heap.size + 1, 1, none⟩ = some (.slice A3 n3 c3) ∧ w'.cell? ⟨w.heap.size + 1, 2, none⟩ = some (.bool s4) ∧ w'.cell? ⟨w.heap.size + 1, 3, none⟩ = some (.slice A4 n4 c4)) := fun w' h => ⟨hE.trans h, (hB1.ext h).cell 0, (hB1.ext h).cell 1, (hB1.ext h).cell 2, (hB1.ext h).cell 3, (hB2.ext h).cell 0, (hB2.ext h).cell 1, (hB2.ext h).cell 2, (hB2.ext h).cell 3⟩
  have HK2 : Hid (∀ w' w'', w'.grownBy w'' (some (w.heap.size + 1 + 1)) → Ext W w' → Ext w w'' ∧ w''.cell? ⟨w.heap.size, 0, none⟩ = some (.bool s1) ∧ w''.cell? ⟨w.heap.size, 1, none⟩ = some (.slice A1 n1 c1) ∧ w''.cell? ⟨w.heap.size, 2, none⟩ = some (.bool s2) ∧ w''.cell? ⟨w.heap.size, 3, none⟩ = some (.slice A2 n2 c2) ∧ w''.cell? ⟨w.heap.size + 1, 0, none⟩ = some (.bool s3) ∧ w''.cell? ⟨w.heap.size + 1, 1, none⟩ = some (.slice A3 n3 c3) ∧ w''.cell? ⟨w.heap.size + 1, 2, none⟩ = some (.bool s4) ∧ w''.cell? ⟨w.heap.size + 1, 3, none⟩ = some (.slice A4 n4 c4)) := fun w' w'' hg h => ⟨(hE.trans h).grown hg (by intro k hk; injection hk with hk; omega), (hg.cell_far ⟨w.heap.size, 0, none⟩ (hB1.ext h).lt (by first | (simp; done) | (simp; omega))).trans ((hB1.ext h).cell 0), (hg.cell_far ⟨w.heap.size, 1, none⟩ (hB1.ext h).lt (by first | (simp; done) | (simp; omega))).trans ((hB1.ext h).cell 1), (hg.cell_far ⟨w.heap.size, 2, none⟩ (hB1.ext h).lt (by first | (simp; done) | (simp; omega))).trans ((hB1.ext h).cell 2), (hg.cell_far ⟨w.heap.size, 3, none⟩ (hB1.ext h).lt (by first | (simp; done) | (simp; omega))).trans ((hB1.ext h).cell 3), (hg.cell_far ⟨w.heap.size + 1, 0, none⟩ (hB2.ext h).lt (by first | (simp; done) | (simp; omega))).trans ((hB2.ext h).cell 0), (hg.cell_far ⟨w.heap.size + 1, 1, none⟩ (hB2.ext h).lt (by first | (simp; done) | (simp; omega))).trans ((hB2.ext h).cell 1), (hg.cell_far ⟨w.heap.size + 1, 2, none⟩ (hB2.ext h).lt (by first | (simp; done) | (simp; omega))).trans ((hB2.ext h).cell 2), (hg.cell_far ⟨w.heap.size + 1, 3, none⟩ (hB2.ext h).lt (by first | (simp; done) | (simp; omega))).trans ((hB2.ext h).cell 3)⟩
  go_region_held3 (fun w' => Ext w w' ∧ w'.cell? ⟨w.heap.size, 0, none⟩ = some (.bool s1) ∧ w'.cell? ⟨w.heap.size, 1, none⟩ = some (.slice A1 n1 c1) ∧ w'.cell? ⟨w.heap.size, 2, none⟩ = some (.bool s2) ∧ w'.cell? ⟨w.heap.size, 3, none⟩ = some (.slice A2 n2 c2) ∧ w'.cell? ⟨w.heap.size + 1, 0, none⟩ = some (.bool s3) ∧ w'.cell? ⟨w.heap.size + 1, 1, none⟩ = some (.slice A3 n3 c3) ∧ w'.cell? ⟨w.heap.size + 1, 2, none⟩ = some (.bool s4) ∧ w'.cell? ⟨w.heap.size + 1, 3, none⟩ = some (.slice A4 n4 c4))
    (first | (refine HK.out _ ?_; (repeat (first | with_reducible assumption | with_reducible exact Ext.refl _ | with_reducible refine Ext.drew ?_ | with_reducible refine Ext.drewN ?_ _ | with_reducible refine Ext.alloc ?_ _ | with_reducible refine Ext.set2 ?_ (by omega) _ _ | with_reducible refine Ext.setCell ?_ (by first | omega | (simp; done) | (simp; omega)) _ | with_reducible refine Ext.trans ?_ (by with_reducible assumption))); done) | exact HK2.out _ _ (by (repeat (first | apply grow_set | exact World.grownBy.refl _ _))) (by (repeat (first | with_reducible assumption | with_reducible exact Ext.refl _ | with_reducible refine Ext.drew ?_ | with_reducible refine Ext.drewN ?_ _ | with_reducible refine Ext.alloc ?_ _ | with_reducible refine Ext.set2 ?_ (by omega) _ _ | with_reducible refine Ext.setCell ?_ (by first | omega | (simp; done) | (simp; omega)) _ | with_reducible refine Ext.trans ?_ (by with_reducible assumption)))))
    (first | (go_at_call 78; (with_reducible refine (iMul_any _ _ _ _ x y _ (by omega) (by omega) (P1.out.ext (by (repeat (first | with_reducible assumption | with_reducible exact Ext.refl _ | with_reducible refine Ext.drew ?_ | with_reducible refine Ext.drewN ?_ _ | with_reducible refine Ext.alloc ?_ _ | with_reducible refine Ext.set2 ?_ (by omega) _ _ | with_reducible refine Ext.setCell ?_ (by first | omega | (simp; done) | (simp; omega)) _ | with_reducible refine Ext.trans ?_ (by with_reducible assumption))))) (Q1.out.ext (by (repeat (first | with_reducible assumption | with_reducible exact Ext.refl _ | with_reducible refine Ext.drew ?_ | with_reducible refine Ext.drewN ?_ _ | with_reducible refine Ext.alloc ?_ _ | with_reducible refine Ext.set2 ?_ (by omega) _ _ | with_reducible refine Ext.setCell ?_ (by first | omega | (simp; done) | (simp; omega)) _ | with_reducible refine Ext.trans ?_ (by with_reducible assumption)))))).mono ?_); rintro e w2 ⟨t2, B2, m2, k2, rfl, hm2, he2⟩) | (go_at_call 78; (with_reducible refine (iMul_any _ _ _ _ d f _ (by omega) (by omega) (P2.out.ext (by (repeat (first | with_reducible assumption | with_reducible exact Ext.refl _ | with_reducible refine Ext.drew ?_ | with_reducible refine Ext.drewN ?_ _ | with_reducible refine Ext.alloc ?_ _ | with_reducible refine Ext.set2 ?_ (by omega) _ _ | with_reducible refine Ext.setCell ?_ (by first | omega | (simp; done) | (simp; omega)) _ | with_reducible refine Ext.trans ?_ (by with_reducible assumption))))) (Q2.out.ext (by (repeat (first | with_reducible assumption | with_reducible exact Ext.refl _ | with_reducible refine Ext.drew ?_ | with_reducible refine Ext.drewN ?_ _ | with_reducible refine Ext.alloc ?_ _ | with_reducible refine Ext.set2 ?_ (by omega) _ _ | with_reducible refine Ext.setCell ?_ (by first | omega | (simp; done) | (simp; omega)) _ | with_reducible refine Ext.trans ?_ (by with_reducible assumption)))))).mono ?_); rintro e w5 ⟨t5, B5, m5, k5, rfl, hm5, he5⟩; rw [← Int.natCast_mul] at hm5) | (go_at_call 76; (with_reducible refine (reduced_any _ _ _ _ _ _ _ hl6 hd0 hd (hm2.ext (by (repeat (first | with_reducible assumption | with_reducible exact Ext.refl _ | with_reducible refine Ext.drew ?_ | with_reducible refine Ext.drewN ?_ _ | with_reducible refine Ext.alloc ?_ _ | with_reducible refine Ext.set2 ?_ (by omega) _ _ | with_reducible refine Ext.setCell ?_ (by first | omega | (simp; done) | (simp; omega)) _ | with_reducible refine Ext.trans ?_ (by with_reducible assumption))))) hm5).mono ?_); rintro e w6 ⟨s, A, n, c, s', A', n', c', rfl, hm6, he6⟩; have hq6 := (hB3.ext (show Ext W w6 by (repeat (first | with_reducible assumption | with_reducible exact Ext.refl _ | with_reducible refine Ext.drew ?_ | with_reducible refine Ext.drewN ?_ _ | with_reducible refine Ext.alloc ?_ _ | with_reducible refine Ext.set2 ?_ (by omega) _ _ | with_reducible refine Ext.setCell ?_ (by first | omega | (simp; done) | (simp; omega)) _ | with_reducible refine Ext.trans ?_ (by with_reducible assumption))))).four))
  go_wp2
  refine bodyPost_ret (v := .agg #[.bool s, .slice A n c, .bool s', .slice A' n' c']) (by simp [results, Tryz.results108, go_sem, hq6]) rfl ?_
  have hEE : Ext W w6 := by (repeat (first | with_reducible assumption | with_reducible exact Ext.refl _ | with_reducible refine Ext.drew ?_ | with_reducible refine Ext.drewN ?_ _ | with_reducible refine Ext.alloc ?_ _ | with_reducible refine Ext.set2 ?_ (by omega) _ _ | with_reducible refine Ext.setCell ?_ (by first | omega | (simp; done) | (simp; omega)) _ | with_reducible refine Ext.trans ?_ (by with_reducible assumption)))
  rw [← HF.out] at hm6
  exact RRat.close hE hEE hB3 (by omega) hm6.1 hm6.2
set_option maxRecDepth 100000 in
set_option maxHeartbeats 2000000 in
theorem rmul1_any (b1 v1 b2 v2 b3 v3 b4 v4 : Value) (p q : Rat) (w : World) (hx : p.num.natAbs ≤ 18446744073709551615) (hy : q.num.natAbs ≤ 18446744073709551615) (hd : p.den * q.den < 4294967296) (hn : (p.num * q.num).natAbs ≤ 18446744073709551615)
    (h1 : IsRat w b1 v1 b2 v2 p) (h2 : IsRat w b3 v3 b4 v4 q) :
    Calls Tryz.prog 23 #[.agg #[b1, v1, b2, v2], .agg #[b3, v3, b4, v4]] w (RRat w (p * q)) := by
  obtain ⟨s1, A1, n1, c1, s2, A2, n2, c2, rfl, rfl, rfl, rfl⟩ := h1.form
  obtain ⟨s3, A3, n3, c3, s4, A4, n4, c4, rfl, rfl, rfl, rfl⟩ := h2.form
  have P1 := Lib.hid h1.1
  have P2 := Lib.hid h1.2
  have Q1 := Lib.hid h2.1
  have Q2 := Lib.hid h2.2
  have HF := Lib.hid (Rat.mul_def' p q)
  have hp0 := Rat.den_pos p
  have hq0 := Rat.den_pos q
  clear h1 h2
  generalize p.num = x at *
  generalize q.num = y at *
  generalize p.den = d at *
  generalize q.den = f at *
  have hd0 : 0 < d * f := Nat.mul_pos hp0 hq0
  have hd1 : d < 4294967296 := Nat.lt_of_le_of_lt (Nat.le_mul_of_pos_right d hq0) hd
  have hf1 : f < 4294967296 := Nat.lt_of_le_of_lt (Nat.le_mul_of_pos_left f hp0) hd
  have lx : (wordsOf x.natAbs).length ≤ 2 := wordsOf_len2 (by omega)
  have ly : (wordsOf y.natAbs).length ≤ 2 := wordsOf_len2 (by omega)
  have ld : (wordsOf ((d : Nat) : Int).natAbs).length ≤ 2 := wordsOf_len2 (by omega)
  have lf : (wordsOf ((f : Nat) : Int).natAbs).length ≤ 2 := wordsOf_len2 (by omega)
  have hl6 : (wordsOf (x * y).natAbs).length ≤ 1000 := by have := wordsOf_len2 (m := (x * y).natAbs) (by omega); omega
  go_enter Tryz.func23, Tryz.ntmps23
  go_wp2_with fail
  obtain ⟨W, hW⟩ : ∃ W : World, W = ((w.alloc (.cells #[.bool s1, .slice A1 n1 c1, .bool s2, .slice A2 n2 c2] 39)).alloc (.cells #[.bool s3, .slice A3 n3 c3, .bool s4, .slice A4 n4 c4] 39)).alloc (.cells #[.bool false, .slice none 0 0, .bool false, .slice none 0 0] 39) := ⟨_, rfl⟩
  rw [← hW]
  have hE : Ext w W := by rw [hW]; exact (((Ext.refl w).alloc _).alloc _).alloc _
  have hB1 : Blk W (w.heap.size) 39 #[.bool s1, .slice A1 n1 c1, .bool s2, .slice A2 n2 c2] := by rw [hW]; exact ((Blk.newAt _ _ _ (by simp)).alloc _).alloc _
  have hB2 : Blk W (w.heap.size + 1) 39 #[.bool s3, .slice A3 n3 c3, .bool s4, .slice A4 n4 c4] := by rw [hW]; exact (Blk.newAt _ _ _ (by simp)).alloc _
  have hB3 : Blk W (w.heap.size + 1 + 1) 39 #[.bool false, .slice none 0 0, .bool false, .slice none 0 0] := by rw [hW]; exact Blk.newAt _ _ _ (by simp)
  clear hW
  have HK : Hid (∀ w', Ext W w' → Ext w w' ∧ w'.cell? ⟨w.heap.size, 0, none⟩ = some (.bool s1) ∧ w'.cell? ⟨w.heap.size, 1, none⟩ = some (.slice A1 n1 c1) ∧ w'.cell? ⟨w.heap.size, 2, none⟩ = some (.bool s2) ∧ w'.cell? ⟨w.heap.size, 3, none⟩ = some (.slice A2 n2 c2) ∧ w'.cell? ⟨w.heap.size + 1, 0, none⟩ = some (.bool s3) ∧ w'.cell? ⟨w.heap.size + 1, 1, none⟩ = some (.slice A3 n3 c3) ∧ w'.cell? ⟨w.heap.size + 1, 2, none⟩ = some (.bool s4) ∧ w'.cell? ⟨w.heap.size + 1, 3, none⟩ = some (.slice A4 n4 c4)) := fun w' h => ⟨hE.trans h, (hB1.ext h).cell 0, (hB1.ext h).cell 1, (hB1.ext h).cell 2, (hB1.ext h).cell 3, (hB2.ext h).cell 0, (hB2.ext h).cell 1, (hB2.ext h).cell 2, (hB2.ext h).cell 3⟩
  have HK2 : Hid (∀ w' w'', w'.grownBy w'' (some (w.heap.size + 1 + 1)) → Ext W w' → Ext w w'' ∧ w''.cell? ⟨w.heap.size, 0, none⟩ = some (.bool s1) ∧ w''.cell? ⟨w.heap.size, 1, none⟩ = some (.slice A1 n1 c1) ∧ w''.cell? ⟨w.heap.size, 2, none⟩ = some (.bool s2) ∧ w''.cell? ⟨w.heap.size, 3, none⟩ = some (.slice A2 n2 c2) ∧ w''.cell? ⟨w.heap.size + 1, 0, none⟩ = some (.bool s3) ∧ w''.cell? ⟨w.heap.size + 1, 1, none⟩ = some (.slice A3 n3 c3) ∧ w''.cell? ⟨w.heap.size + 1, 2, none⟩ = some (.bool s4) ∧ w''.cell? ⟨w.heap.size + 1, 3, none⟩ = some (.slice A4 n4 c4)) := fun w' w'' hg h => ⟨(hE.trans h).grown hg (by intro k hk; injection hk with hk; omega), (hg.cell_far ⟨w.heap.size, 0, none⟩ (hB1.ext h).lt (by first | (simp; done) | (simp; omega))).trans ((hB1.ext h).cell 0), (hg.cell_far ⟨w.heap.size, 1, none⟩ (hB1.ext h).lt (by first | (simp; done) | (simp; omega))).trans ((hB1.ext h).cell 1), (hg.cell_far ⟨w.heap.size, 2, none⟩ (hB1.ext h).lt (by first | (simp; done) | (simp; omega))).trans ((hB1.ext h).cell 2), (hg.cell_far ⟨w.heap.size, 3, none⟩ (hB1.ext h).lt (by first | (simp; done) | (simp; omega))).trans ((hB1.ext h).cell 3), (hg.cell_far ⟨w.heap.size + 1, 0, none⟩ (hB2.ext h).lt (by first | (simp; done) | (simp; omega))).trans ((hB2.ext h).cell 0), (hg.cell_far ⟨w.heap.size + 1, 1, none⟩ (hB2.ext h).lt (by first | (simp; done) | (simp; omega))).trans ((hB2.ext h).cell 1), (hg.cell_far ⟨w.heap.size + 1, 2, none⟩ (hB2.ext h).lt (by first | (simp; done) | (simp; omega))).trans ((hB2.ext h).cell 2), (hg.cell_far ⟨w.heap.size + 1, 3, none⟩ (hB2.ext h).lt (by first | (simp; done) | (simp; omega))).trans ((hB2.ext h).cell 3)⟩
  go_region_held3 (fun w' => Ext w w' ∧ w'.cell? ⟨w.heap.size, 0, none⟩ = some (.bool s1) ∧ w'.cell? ⟨w.heap.size, 1, none⟩ = some (.slice A1 n1 c1) ∧ w'.cell? ⟨w.heap.size, 2, none⟩ = some (.bool s2) ∧ w'.cell? ⟨w.heap.size, 3, none⟩ = some (.slice A2 n2 c2) ∧ w'.cell? ⟨w.heap.size + 1, 0, none⟩ = some (.bool s3) ∧ w'.cell? ⟨w.heap.size + 1, 1, none⟩ = some (.slice A3 n3 c3) ∧ w'.cell? ⟨w.heap.size + 1, 2, none⟩ = some (.bool s4) ∧ w'.cell? ⟨w.heap.size + 1, 3, none⟩ = some (.slice A4 n4 c4))
    (first | (refine HK.out _ ?_; (repeat (first | with_reducible assumption | with_reducible exact Ext.refl _ | with_reducible refine Ext.drew ?_ | with_reducible refine Ext.drewN ?_ _ | with_reducible refine Ext.alloc ?_ _ | with_reducible refine Ext.set2 ?_ (by omega) _ _ | with_reducible refine Ext.setCell ?_ (by first | omega | (simp; done) | (simp; omega)) _ | with_reducible refine Ext.trans ?_ (by with_reducible assumption))); done) | exact HK2.out _ _ (by (repeat (first | apply grow_set | exact World.grownBy.refl _ _))) (by (repeat (first | with_reducible assumption | with_reducible exact Ext.refl _ | with_reducible refine Ext.drew ?_ | with_reducible refine Ext.drewN ?_ _ | with_reducible refine Ext.alloc ?_ _ | with_reducible refine Ext.set2 ?_ (by omega) _ _ | with_reducible refine Ext.setCell ?_ (by first | omega | (simp; done) | (simp; omega)) _ | with_reducible refine Ext.trans ?_ (by with_reducible assumption)))))
    (first | (go_at_call 43; (with_reducible refine (iMul1_any _ _ _ _ x y _ (by omega) (by omega) (P1.out.ext (by (repeat (first | with_reducible assumption | with_reducible exact Ext.refl _ | with_reducible refine Ext.drew ?_ | with_reducible refine Ext.drewN ?_ _ | with_reducible refine Ext.alloc ?_ _ | with_reducible refine Ext.set2 ?_ (by omega) _ _ | with_reducible refine Ext.setCell ?_ (by first | omega | (simp; done) | (simp; omega)) _ | with_reducible refine Ext.trans ?_ (by with_reducible assumption))))) (Q1.out.ext (by (repeat (first | with_reducible assumption | with_reducible exact Ext.refl _ | with_reducible refine Ext.drew ?_ | with_reducible refine Ext.drewN ?_ _ | with_reducible refine Ext.alloc ?_ _ | with_reducible refine Ext.set2 ?_ (by omega) _ _ | with_reducible refine Ext.setCell ?_ (by first | omega | (simp; done) | (simp; omega)) _ | with_reducible refine Ext.trans ?_ (by with_reducible assumption)))))).mono ?_); rintro e w2 ⟨t2, B2, m2, k2, rfl, hm2, he2⟩) | (go_at_call 43; (with_reducible refine (iMul1_any _ _ _ _ d f _ (by omega) (by omega) (P2.out.ext (by (repeat (first | with_reducible assumption | with_reducible exact Ext.refl _ | with_reducible refine Ext.drew ?_ | with_reducible refine Ext.drewN ?_ _ | with_reducible refine Ext.alloc ?_ _ | with_reducible refine Ext.set2 ?_ (by omega) _ _ | with_reducible refine Ext.setCell ?_ (by first | omega | (simp; done) | (simp; omega)) _ | with_reducible refine Ext.trans ?_ (by with_reducible assumption))))) (Q2.out.ext (by (repeat (first | with_reducible assumption | with_reducible exact Ext.refl _ | with_reducible refine Ext.drew ?_ | with_reducible refine Ext.drewN ?_ _ | with_reducible refine Ext.alloc ?_ _ | with_reducible refine Ext.set2 ?_ (by omega) _ _ | with_reducible refine Ext.setCell ?_ (by first | omega | (simp; done) | (simp; omega)) _ | with_reducible refine Ext.trans ?_ (by with_reducible assumption)))))).mono ?_); rintro e w5 ⟨t5, B5, m5, k5, rfl, hm5, he5⟩; rw [← Int.natCast_mul] at hm5) | (go_at_call 42; (with_reducible refine (over_any _ _ _ _ _ _ _ hn hd0 (by omega) (hm2.ext (by (repeat (first | with_reducible assumption | with_reducible exact Ext.refl _ | with_reducible refine Ext.drew ?_ | with_reducible refine Ext.drewN ?_ _ | with_reducible refine Ext.alloc ?_ _ | with_reducible refine Ext.set2 ?_ (by omega) _ _ | with_reducible refine Ext.setCell ?_ (by first | omega | (simp; done) | (simp; omega)) _ | with_reducible refine Ext.trans ?_ (by with_reducible assumption))))) hm5).mono ?_); rintro e w6 ⟨s, A, n, c, s', A', n', c', rfl, hm6, he6⟩; have hq6 := (hB3.ext (show Ext W w6 by (repeat (first | with_reducible assumption | with_reducible exact Ext.refl _ | with_reducible refine Ext.drew ?_ | with_reducible refine Ext.drewN ?_ _ | with_reducible refine Ext.alloc ?_ _ | with_reducible refine Ext.set2 ?_ (by omega) _ _ | with_reducible refine Ext.setCell ?_ (by first | omega | (simp; done) | (simp; omega)) _ | with_reducible refine Ext.trans ?_ (by with_reducible assumption))))).four))
  go_wp2
  refine bodyPost_ret (v := .agg #[.bool s, .slice A n c, .bool s', .slice A' n' c']) (by simp [results, Tryz.results23, go_sem, hq6]) rfl ?_
  have hEE : Ext W w6 := by (repeat (first | with_reducible assumption | with_reducible exact Ext.refl _ | with_reducible refine Ext.drew ?_ | with_reducible refine Ext.drewN ?_ _ | with_reducible refine Ext.alloc ?_ _ | with_reducible refine Ext.set2 ?_ (by omega) _ _ | with_reducible refine Ext.setCell ?_ (by first | omega | (simp; done) | (simp; omega)) _ | with_reducible refine Ext.trans ?_ (by with_reducible assumption)))
  rw [← HF.out] at hm6
  exact RRat.close hE hEE hB3 (by omega) hm6.1 hm6.2

end Go.Proofs.YtekipapkcgoieaaGreatDoor
