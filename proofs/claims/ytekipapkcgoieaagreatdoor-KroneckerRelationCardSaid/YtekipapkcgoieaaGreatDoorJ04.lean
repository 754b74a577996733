/-
  The program's integers: remainders, greatest common divisors.
  The reference's integers: comparing sizes.
  The reference's sizes: differences.
  The reference's integers: comparison, sums, differences.
-/
import Derived.Test.YtekipapkcgoieaaGreatDoorJ03
import Derived.Test.YtekipapkcgoieaaGreatDoorJ01
import Derived.Test.YtekipapkcgoieaaGreatDoorJ02
set_option linter.unusedVariables false
set_option linter.unusedSimpArgs false

/- The program's integers: remainders, greatest common divisors. -/
namespace Go.Proofs.YtekipapkcgoieaaGreatDoor
open Go.RowKit
attribute [local go_sem ↓] Go.wp_at_zero Go.wp_at_succ

set_option maxRecDepth 100000 in
set_option maxHeartbeats 1000000 in
theorem iMod_any (b1 v1 b2 v2 : Value) (x y : Int) (w : World) (hx : (wordsOf x.natAbs).length ≤ 1000) (hy : (wordsOf y.natAbs).length ≤ 1000) (hy0 : y ≠ 0) (hs : x.natAbs < y.natAbs ∨ y.natAbs < 4294967296) (h1 : IsInt w b1 v1 x) (h2 : IsInt w b2 v2 y) :
    Calls Tryz.prog 136 #[.agg #[b1, v1], .agg #[b2, v2]] w (RInt w (x % y)) := by
  obtain ⟨s1, A1, n1, c1, rfl, rfl, -, -, -⟩ := h1.form
  obtain ⟨s2, A2, n2, c2, rfl, rfl, -, -, -⟩ := h2.form
  have H1 := Lib.hid h1
  have H2 := Lib.hid h2
  clear h1 h2
  go_enter Tryz.func136, Tryz.ntmps136
  go_wp2_with fail
  obtain ⟨W, hW⟩ : ∃ W : World, W = ((w.alloc (.cells #[.bool s1, .slice A1 n1 c1] 37)).alloc (.cells #[.bool s2, .slice A2 n2 c2] 37)).alloc (.cells #[.bool false, .slice none 0 0] 37) := ⟨_, rfl⟩
  rw [← hW]
  have hE : Ext w W := by rw [hW]; exact (((Ext.refl w).alloc _).alloc _).alloc _
  have hB1 : Blk W (w.heap.size) 37 #[.bool s1, .slice A1 n1 c1] := by rw [hW]; exact ((Blk.newAt _ _ _ (by simp)).alloc _).alloc _
  have hB2 : Blk W (w.heap.size + 1) 37 #[.bool s2, .slice A2 n2 c2] := by rw [hW]; exact (Blk.newAt _ _ _ (by simp)).alloc _
  have hB3 : Blk W (w.heap.size + 1 + 1) 37 #[.bool false, .slice none 0 0] := by rw [hW]; exact Blk.newAt _ _ _ (by simp)
  clear hW
  have HK : Hid (∀ w', Ext W w' → Ext w w' ∧ w'.cell? ⟨w.heap.size, 0, none⟩ = some (.bool s1) ∧ w'.cell? ⟨w.heap.size, 1, none⟩ = some (.slice A1 n1 c1) ∧ w'.cell? ⟨w.heap.size + 1, 0, none⟩ = some (.bool s2) ∧ w'.cell? ⟨w.heap.size + 1, 1, none⟩ = some (.slice A2 n2 c2)) := fun w' h => ⟨hE.trans h, (hB1.ext h).cell 0, (hB1.ext h).cell 1, (hB2.ext h).cell 0, (hB2.ext h).cell 1⟩
  have HK2 : Hid (∀ w' w'', w'.grownBy w'' (some (w.heap.size + 1 + 1)) → Ext W w' → Ext w w'' ∧ w''.cell? ⟨w.heap.size, 0, none⟩ = some (.bool s1) ∧ w''.cell? ⟨w.heap.size, 1, none⟩ = some (.slice A1 n1 c1) ∧ w''.cell? ⟨w.heap.size + 1, 0, none⟩ = some (.bool s2) ∧ w''.cell? ⟨w.heap.size + 1, 1, none⟩ = some (.slice A2 n2 c2)) := fun w' w'' hg h => ⟨(hE.trans h).grown hg (by intro k hk; injection hk with hk; omega), (hg.cell_far ⟨w.heap.size, 0, none⟩ (hB1.ext h).lt (by first | (simp; done) | (simp; omega))).trans ((hB1.ext h).cell 0), (hg.cell_far ⟨w.heap.size, 1, none⟩ (hB1.ext h).lt (by first | (simp; done) | (simp; omega))).trans ((hB1.ext h).cell 1), (hg.cell_far ⟨w.heap.size + 1, 0, none⟩ (hB2.ext h).lt (by first | (simp; done) | (simp; omega))).trans ((hB2.ext h).cell 0), (hg.cell_far ⟨w.heap.size + 1, 1, none⟩ (hB2.ext h).lt (by first | (simp; done) | (simp; omega))).trans ((hB2.ext h).cell 1)⟩
  refine (iDivMod_any _ _ _ _ x y _ hx hy hy0 hs (H1.out.ext hE) (H2.out.ext hE)).mono ?_
  rintro e w3 ⟨s, A, n, c, s', A', n', c', rfl, hq, hr, he3⟩
  have hq3 := (hB3.ext he3).two
  have hl3 := (hB3.ext he3).lt
  have hne : ¬ w3.heap.size = w.heap.size + 1 + 1 := by omega
  have hne2 : ¬ w3.heap.size + 1 = w.heap.size + 1 + 1 := by omega
  have hq5 := (((hB3.ext he3).alloc (.cells #[.bool s, .slice A n c] 37)).alloc (.cells #[.bool s', .slice A' n' c'] 37)).two
  go_wp2
  refine bodyPost_ret (v := .agg #[.bool s', .slice A' n' c']) (by simp [results, Tryz.results136, go_sem, hq5]) rfl ?_
  exact RInt.close hE ((he3.alloc _).alloc _) hB3 (by omega) ((hr.alloc _).alloc _)
set_option maxRecDepth 100000 in
set_option maxHeartbeats 1000000 in
theorem rquot_any (b1 v1 b2 v2 : Value) (x y : Int) (w : World) (hx : (wordsOf x.natAbs).length ≤ 1000) (hy : (wordsOf y.natAbs).length ≤ 1000) (hy0 : y ≠ 0) (hs : x.natAbs < y.natAbs ∨ y.natAbs < 4294967296) (h1 : IsInt w b1 v1 x) (h2 : IsInt w b2 v2 y) :
    Calls Tryz.prog 110 #[.agg #[b1, v1], .agg #[b2, v2]] w (RInt w (x / y)) := by
  obtain ⟨s1, A1, n1, c1, rfl, rfl, -, -, -⟩ := h1.form
  obtain ⟨s2, A2, n2, c2, rfl, rfl, -, -, -⟩ := h2.form
  have H1 := Lib.hid h1
  have H2 := Lib.hid h2
  clear h1 h2
  go_enter Tryz.func110, Tryz.ntmps110
  go_wp2_with fail
  obtain ⟨W, hW⟩ : ∃ W : World, W = ((w.alloc (.cells #[.bool s1, .slice A1 n1 c1] 37)).alloc (.cells #[.bool s2, .slice A2 n2 c2] 37)).alloc (.cells #[.bool false, .slice none 0 0] 37) := ⟨_, rfl⟩
  rw [← hW]
  have hE : Ext w W := by rw [hW]; exact (((Ext.refl w).alloc _).alloc _).alloc _
  have hB1 : Blk W (w.heap.size) 37 #[.bool s1, .slice A1 n1 c1] := by rw [hW]; exact ((Blk.newAt _ _ _ (by simp)).alloc _).alloc _
  have hB2 : Blk W (w.heap.size + 1) 37 #[.bool s2, .slice A2 n2 c2] := by rw [hW]; exact (Blk.newAt _ _ _ (by simp)).alloc _
  have hB3 : Blk W (w.heap.size + 1 + 1) 37 #[.bool false, .slice none 0 0] := by rw [hW]; exact Blk.newAt _ _ _ (by simp)
  clear hW
  have HK : Hid (∀ w', Ext W w' → Ext w w' ∧ w'.cell? ⟨w.heap.size, 0, none⟩ = some (.bool s1) ∧ w'.cell? ⟨w.heap.size, 1, none⟩ = some (.slice A1 n1 c1) ∧ w'.cell? ⟨w.heap.size + 1, 0, none⟩ = some (.bool s2) ∧ w'.cell? ⟨w.heap.size + 1, 1, none⟩ = some (.slice A2 n2 c2)) := fun w' h => ⟨hE.trans h, (hB1.ext h).cell 0, (hB1.ext h).cell 1, (hB2.ext h).cell 0, (hB2.ext h).cell 1⟩
  have HK2 : Hid (∀ w' w'', w'.grownBy w'' (some (w.heap.size + 1 + 1)) → Ext W w' → Ext w w'' ∧ w''.cell? ⟨w.heap.size, 0, none⟩ = some (.bool s1) ∧ w''.cell? ⟨w.heap.size, 1, none⟩ = some (.slice A1 n1 c1) ∧ w''.cell? ⟨w.heap.size + 1, 0, none⟩ = some (.bool s2) ∧ w''.cell? ⟨w.heap.size + 1, 1, none⟩ = some (.slice A2 n2 c2)) := fun w' w'' hg h => ⟨(hE.trans h).grown hg (by intro k hk; injection hk with hk; omega), (hg.cell_far ⟨w.heap.size, 0, none⟩ (hB1.ext h).lt (by first | (simp; done) | (simp; omega))).trans ((hB1.ext h).cell 0), (hg.cell_far ⟨w.heap.size, 1, none⟩ (hB1.ext h).lt (by first | (simp; done) | (simp; omega))).trans ((hB1.ext h).cell 1), (hg.cell_far ⟨w.heap.size + 1, 0, none⟩ (hB2.ext h).lt (by first | (simp; done) | (simp; omega))).trans ((hB2.ext h).cell 0), (hg.cell_far ⟨w.heap.size + 1, 1, none⟩ (hB2.ext h).lt (by first | (simp; done) | (simp; omega))).trans ((hB2.ext h).cell 1)⟩
  refine (iDivMod_any _ _ _ _ x y _ hx hy hy0 hs (H1.out.ext hE) (H2.out.ext hE)).mono ?_
  rintro e w3 ⟨s, A, n, c, s', A', n', c', rfl, hq, hr, he3⟩
  have hq3 := (hB3.ext he3).two
  have hl3 := (hB3.ext he3).lt
  have hne : ¬ w3.heap.size = w.heap.size + 1 + 1 := by omega
  have hne2 : ¬ w3.heap.size + 1 = w.heap.size + 1 + 1 := by omega
  have hq5 := (((hB3.ext he3).alloc (.cells #[.bool s, .slice A n c] 37)).alloc (.cells #[.bool s', .slice A' n' c'] 37)).two
  go_wp2
  refine bodyPost_ret (v := .agg #[.bool s, .slice A n c]) (by simp [results, Tryz.results110, go_sem, hq5]) rfl ?_
  exact RInt.close hE ((he3.alloc _).alloc _) hB3 (by omega) ((hq.alloc _).alloc _)

/-- The state at the head of a round: two variables that hold two integers. -/
def GcdI (w : World) (x y : Int) (k : Nat) (wr : World) : Prop := ∃ (a b : Int) (s : Bool) (A : Option Addr) (n c : Nat) (s' : Bool) (A' : Option Addr) (n' c' : Nat),
  Blk wr w.heap.size 37 #[.bool s, .slice A n c] ∧ Blk wr (w.heap.size + 1) 37 #[.bool s', .slice A' n' c'] ∧ Blk wr (w.heap.size + 1 + 1) 37 #[.bool false, .slice none 0 0] ∧
  IsInt wr (.bool s) (.slice A n c) a ∧ IsInt wr (.bool s') (.slice A' n' c') b ∧ Int.gcd a b = Int.gcd x y ∧ b.natAbs < 4294967296 ∧ b.natAbs ≤ k ∧ (wordsOf a.natAbs).length ≤ 1000 ∧ Ext w wr

theorem gcd_step (a b : Int) : Int.gcd b (a % b) = Int.gcd a b := by
  have h := Int.mul_ediv_add_emod a b
  apply Nat.dvd_antisymm
  · apply Int.dvd_gcd
    · conv => rhs; rw [← h]
      exact Int.dvd_add (Int.dvd_mul_of_dvd_left (Int.gcd_dvd_left ..) ) (Int.gcd_dvd_right ..)
    · exact Int.gcd_dvd_left ..
  · apply Int.dvd_gcd
    · exact Int.gcd_dvd_right ..
    · rw [Int.emod_def]
      exact Int.dvd_sub (Int.gcd_dvd_left ..) (Int.dvd_mul_of_dvd_left (Int.gcd_dvd_right ..))
theorem GcdI.step {w wr w3 : World} {x y a b : Int} {s : Bool} {A : Option Addr} {n c : Nat} {s' : Bool} {A' : Option Addr} {n' c' : Nat} {s3 : Bool} {A3 : Option Addr} {n3 c3 : Nat}
    (hA : Blk wr w.heap.size 37 #[.bool s, .slice A n c]) (hB : Blk wr (w.heap.size + 1) 37 #[.bool s', .slice A' n' c']) (hR : Blk wr (w.heap.size + 1 + 1) 37 #[.bool false, .slice none 0 0])
    (he : Ext wr w3) (hb : IsInt wr (.bool s') (.slice A' n' c') b) (hm : IsInt w3 (.bool s3) (.slice A3 n3 c3) (a % b)) (g1 : Int.gcd b (a % b) = Int.gcd a b) (g2 : Int.gcd a b = Int.gcd x y) (hb0 : b ≠ 0) (hb32 : b.natAbs < 4294967296) (hE : Ext w wr) :
    GcdI w x y (a % b).natAbs ((((w3.setCell ⟨w.heap.size, 0, none⟩ (.bool s')).setCell ⟨w.heap.size, 1, none⟩ (.slice A' n' c')).setCell ⟨w.heap.size + 1, 0, none⟩ (.bool s3)).setCell ⟨w.heap.size + 1, 1, none⟩ (.slice A3 n3 c3)) := by
  have h1 := Int.emod_nonneg a hb0
  have h2 := Int.emod_lt a hb0
  have t1 := (hA.ext he).type
  have t2 := (hB.ext he).type
  exact ⟨b, a % b, s', A', n', c', s3, A3, n3, c3, ((hA.ext he).set2 _ _).far2 (by omega) _ _, ((hB.ext he).far2 (by omega) _ _).set2 _ _, ((hR.ext he).far2 (by omega) _ _).far2 (by omega) _ _,
    ((hb.ext he).set2 t1 (by decide) _ _).set2 ((t2.setCell _ _).setCell _ _) (by decide) _ _, (hm.set2 t1 (by decide) _ _).set2 ((t2.setCell _ _).setCell _ _) (by decide) _ _, g1.trans g2, by omega, Nat.le_refl _,
    by have := wordsOf_len1 hb32; omega, ((hE.trans he).set2 (Nat.le_refl _) _ _).set2 (by omega) _ _⟩

set_option maxRecDepth 100000 in
set_option maxHeartbeats 2000000 in
theorem iGcd_any (b1 v1 b2 v2 : Value) (x y : Int) (w : World) (hx : (wordsOf x.natAbs).length ≤ 1000) (hy : y.natAbs < 4294967296) (h1 : IsInt w b1 v1 x) (h2 : IsInt w b2 v2 y) :
    Calls Tryz.prog 109 #[.agg #[b1, v1], .agg #[b2, v2]] w (RInt w (Int.gcd x y : Int)) := by
  obtain ⟨s1, A1, n1, c1, rfl, rfl, -, -, -⟩ := h1.form
  obtain ⟨s2, A2, n2, c2, rfl, rfl, -, -, -⟩ := h2.form
  have H1 := Lib.hid h1
  have H2 := Lib.hid h2
  clear h1 h2
  go_enter Tryz.func109, Tryz.ntmps109
  go_wp2_with fail
  obtain ⟨W, hW⟩ : ∃ W : World, W = ((w.alloc (.cells #[.bool s1, .slice A1 n1 c1] 37)).alloc (.cells #[.bool s2, .slice A2 n2 c2] 37)).alloc (.cells #[.bool false, .slice none 0 0] 37) := ⟨_, rfl⟩
  rw [← hW]
  have hE : Ext w W := by rw [hW]; exact (((Ext.refl w).alloc _).alloc _).alloc _
  have hB1 : Blk W (w.heap.size) 37 #[.bool s1, .slice A1 n1 c1] := by rw [hW]; exact ((Blk.newAt _ _ _ (by simp)).alloc _).alloc _
  have hB2 : Blk W (w.heap.size + 1) 37 #[.bool s2, .slice A2 n2 c2] := by rw [hW]; exact (Blk.newAt _ _ _ (by simp)).alloc _
  have hB3 : Blk W (w.heap.size + 1 + 1) 37 #[.bool false, .slice none 0 0] := by rw [hW]; exact Blk.newAt _ _ _ (by simp)
  clear hW
  have HK : Hid (∀ w', Ext W w' → Ext w w' ∧ w'.cell? ⟨w.heap.size, 0, none⟩ = some (.bool s1) ∧ w'.cell? ⟨w.heap.size, 1, none⟩ = some (.slice A1 n1 c1) ∧ w'.cell? ⟨w.heap.size + 1, 0, none⟩ = some (.bool s2) ∧ w'.cell? ⟨w.heap.size + 1, 1, none⟩ = some (.slice A2 n2 c2)) := fun w' h => ⟨hE.trans h, (hB1.ext h).cell 0, (hB1.ext h).cell 1, (hB2.ext h).cell 0, (hB2.ext h).cell 1⟩
  have HK2 : Hid (∀ w' w'', w'.grownBy w'' (some (w.heap.size + 1 + 1)) → Ext W w' → Ext w w'' ∧ w''.cell? ⟨w.heap.size, 0, none⟩ = some (.bool s1) ∧ w''.cell? ⟨w.heap.size, 1, none⟩ = some (.slice A1 n1 c1) ∧ w''.cell? ⟨w.heap.size + 1, 0, none⟩ = some (.bool s2) ∧ w''.cell? ⟨w.heap.size + 1, 1, none⟩ = some (.slice A2 n2 c2)) := fun w' w'' hg h => ⟨(hE.trans h).grown hg (by intro k hk; injection hk with hk; omega), (hg.cell_far ⟨w.heap.size, 0, none⟩ (hB1.ext h).lt (by first | (simp; done) | (simp; omega))).trans ((hB1.ext h).cell 0), (hg.cell_far ⟨w.heap.size, 1, none⟩ (hB1.ext h).lt (by first | (simp; done) | (simp; omega))).trans ((hB1.ext h).cell 1), (hg.cell_far ⟨w.heap.size + 1, 0, none⟩ (hB2.ext h).lt (by first | (simp; done) | (simp; omega))).trans ((hB2.ext h).cell 0), (hg.cell_far ⟨w.heap.size + 1, 1, none⟩ (hB2.ext h).lt (by first | (simp; done) | (simp; omega))).trans ((hB2.ext h).cell 1)⟩
  go_loopg [] (y.natAbs) (fun k wr => GcdI w x y k wr)
  case atStart => exact ⟨x, y, _, _, _, _, _, _, _, _, hB1, hB2, hB3, H1.out.ext hE, H2.out.ext hE, rfl, hy, Nat.le_refl _, hx, hE⟩
  case round =>
    obtain ⟨a, b, s, A, n, c, s', A', n', c', hA, hB, hR, ha, hb, hg, hb32, hbk, hal, hEr⟩ := hrel
    clear hB1 hB2 hB3 HK HK2
    have qa := hA.two
    have qb := hB.two
    have qr := hR.two
    have hn' : n' = (wordsOf b.natAbs).length := Words.len hb.2
    by_cases hb0 : b = 0
    · subst hb0
      have hn0 : n' = 0 := by rw [hn']; rfl
      subst hn0
      have HG := Lib.hid (by rw [← hg]; simp : (a.natAbs : Int) = (Int.gcd x y : Int))
      clear hn' hg
      go_wp2_with fail
      refine (iAbs_any _ _ _ _ (by omega) ha).mono ?_
      rintro e w3 ⟨s3, A3, n3, c3, rfl, hm3, he3⟩
      have hq3 := (hR.ext he3).two
      go_wp2
      refine bodyPost_ret (v := .agg #[.bool s3, .slice A3 n3 c3]) (by simp [results, Tryz.results109, go_sem, hq3]) rfl ?_
      rw [HG.out] at hm3
      exact RInt.close hEr he3 hR (by omega) hm3
    · have hpos : 0 < n' := by have := @wordsOf_pos b.natAbs; omega
      have HN := Lib.hid hn'
      clear hn'
      have HG := Lib.hid hg
      clear hg
      go_wp2_with fail
      go_region_with (go_at_call 136; ((with_reducible refine (iMod_any _ _ _ _ a b _ hal ?h1 hb0 (Or.inr hb32) (ha.ext ?h2) (hb.ext ?h3)).mono ?_)); (case h1 => (have := wordsOf_len1 hb32; omega)); (case h2 => (repeat (first | with_reducible assumption | with_reducible exact Ext.refl _ | with_reducible refine Ext.drew ?_ | with_reducible refine Ext.drewN ?_ _ | with_reducible refine Ext.alloc ?_ _ | with_reducible refine Ext.set2 ?_ (by omega) _ _ | with_reducible refine Ext.setCell ?_ (by first | omega | (simp; done) | (simp; omega)) _ | with_reducible refine Ext.trans ?_ (by with_reducible assumption)))); (case h3 => (repeat (first | with_reducible assumption | with_reducible exact Ext.refl _ | with_reducible refine Ext.drew ?_ | with_reducible refine Ext.drewN ?_ _ | with_reducible refine Ext.alloc ?_ _ | with_reducible refine Ext.set2 ?_ (by omega) _ _ | with_reducible refine Ext.setCell ?_ (by first | omega | (simp; done) | (simp; omega)) _ | with_reducible refine Ext.trans ?_ (by with_reducible assumption)))); rintro e w3 ⟨s3, A3, n3, c3, rfl, hm3, he3⟩; have qa3 := (hA.ext (show Ext wr w3 by (repeat (first | with_reducible assumption | with_reducible exact Ext.refl _ | with_reducible refine Ext.drew ?_ | with_reducible refine Ext.drewN ?_ _ | with_reducible refine Ext.alloc ?_ _ | with_reducible refine Ext.set2 ?_ (by omega) _ _ | with_reducible refine Ext.setCell ?_ (by first | omega | (simp; done) | (simp; omega)) _ | with_reducible refine Ext.trans ?_ (by with_reducible assumption))))).two; have qb3 := (hB.ext (show Ext wr w3 by (repeat (first | with_reducible assumption | with_reducible exact Ext.refl _ | with_reducible refine Ext.drew ?_ | with_reducible refine Ext.drewN ?_ _ | with_reducible refine Ext.alloc ?_ _ | with_reducible refine Ext.set2 ?_ (by omega) _ _ | with_reducible refine Ext.setCell ?_ (by first | omega | (simp; done) | (simp; omega)) _ | with_reducible refine Ext.trans ?_ (by with_reducible assumption))))).two)
      all_goals
        go_wp2_with fail
        go_roundg (a % b).natAbs
        case measure => (have := Int.emod_nonneg a hb0; have := Int.emod_lt a hb0; omega)
        case rel =>
          have he : Ext wr w3 := by (repeat (first | with_reducible assumption | with_reducible exact Ext.refl _ | with_reducible refine Ext.drew ?_ | with_reducible refine Ext.drewN ?_ _ | with_reducible refine Ext.alloc ?_ _ | with_reducible refine Ext.set2 ?_ (by omega) _ _ | with_reducible refine Ext.setCell ?_ (by first | omega | (simp; done) | (simp; omega)) _ | with_reducible refine Ext.trans ?_ (by with_reducible assumption)))
          exact GcdI.step hA hB hR he hb hm3 (gcd_step a b) HG.out hb0 hb32 hEr

end Go.Proofs.YtekipapkcgoieaaGreatDoor

/- The reference's integers: comparing sizes. -/
namespace Go.Proofs.YtekipapkcgoieaaGreatDoor
open Go.RowKit

set_option maxHeartbeats 400000 in
theorem size_any (v u : Value) (a b : List Nat) (w : World) (ha : Canon a) (hb : Canon b) (hal : a.length ≤ 1000000000) (hbl : b.length ≤ 1000000000) (h1 : Words w v a) (h2 : Words w u b) :
    Calls Tryz.prog 56 #[v, u] w fun e w' => e = .returned (.int .i64 (icmp (nv a) (nv b))) ∧ ∃ n, w' = w.drewN n := by
  by_cases hlen : a.length = b.length
  · by_cases h0 : 0 < a.length
    · obtain ⟨g, o, c, rfl, _, _, _, hx⟩ := h1.some_ h0
      obtain ⟨g', o', c', rfl, _, _, _, hy⟩ := h2.some_ (by omega)
      have h3 : ((a.length : Int) != (b.length : Int)) = false := by rw [hlen]; exact bne_self_eq_false _
      have haw := ha.w32
      have hbw := hb.w32
      have HL := Lib.hid hlen
      have HX := Lib.hid hx
      have HY := Lib.hid hy
      have hle : a.length ≤ b.length := by omega
      clear hlen hx hy h1 h2
      go_enter Tryz.func56, Tryz.ntmps56
      go_wp2
      go_loopw [5] (fun t wr => ∃ i : Int, -1 ≤ i ∧ i < (a.length : Int) ∧ t = .int .i64 i ∧ Hid (∀ j : Nat, i < (j : Int) → a[j]?.getD 0 = b[j]?.getD 0) ∧ ∃ m, wr = w.drewN m) (fun t _ => (intOf t + 1).toNat)
      case atStart => exact ⟨(a.length : Int) - 1, by omega, by omega, rfl, (fun j hj => by rw [List.getElem?_eq_none (by omega), List.getElem?_eq_none (by have := HL.out; omega)]), 0, rfl⟩
      case round =>
        obtain ⟨i, hi0, hi1, rfl, hz, m, rfl⟩ := hrel
        by_cases hk0 : 0 ≤ i
        · obtain ⟨k, rfl⟩ := Int.eq_ofNat_of_zero_le hk0
          have hcx := cells_of HX.out k (by omega)
          have hcy := cells_of HY.out k (by omega)
          obtain ⟨x, hx⟩ : ∃ x, x = a[k]?.getD 0 := ⟨_, rfl⟩
          obtain ⟨y, hy⟩ : ∃ y, y = b[k]?.getD 0 := ⟨_, rfl⟩
          rw [← hx] at hcx
          rw [← hy] at hcy
          have hkb : (k : Int) < (b.length : Int) := by omega
          have HX := Lib.hid hx
          have HY := Lib.hid hy
          clear hx hy
          rcases Nat.lt_trichotomy x y with hlt | heq | hgt
          · have hv := nv_lt_of haw HL.out k (by omega) (fun j hj => hz.out j (by omega)) (by rw [← HX.out, ← HY.out]; exact hlt)
            have HF := Lib.hid (icmp_nat_lt hv)
            clear hv
            have hd : (x : Int) < (y : Int) := by omega
            go_wp2
            go_quiet (fail)
            go_wp2
            go_ret
            exact ⟨ret_int HF.out.symm, by simp only [World.drewN_drewN]; exact ⟨_, rfl⟩⟩
          · subst heq
            go_wp2
            go_quiet (fail)
            go_wp2
            go_quiet (fail)
            go_wp2
            go_roundw
            case rel => exact ⟨(k : Int) - 1, by omega, by omega, rfl, (fun j hj => by
              by_cases hjk : j = k
              · rw [hjk, ← HX.out, ← HY.out]
              · exact hz.out j (by omega)), _, rfl⟩
            case measure => (simp [intOf] <;> omega)
          · have hv := nv_lt_of hbw HL.out.symm k (by have := HL.out; omega) (fun j hj => (hz.out j (by omega)).symm) (by rw [← HX.out, ← HY.out]; exact hgt)
            have HF := Lib.hid (icmp_nat_gt hv)
            clear hv
            have hd : ¬ (x : Int) < (y : Int) := by omega
            have hd2 : (y : Int) < (x : Int) := by omega
            go_wp2
            go_quiet (fail)
            go_wp2
            go_quiet (fail)
            go_wp2
            go_ret
            exact ⟨ret_int HF.out.symm, by simp only [World.drewN_drewN]; exact ⟨_, rfl⟩⟩
        · have hab := Lib.hid (eq_of_all HL.out fun j _ => hz.out j (by omega))
          go_wp2
          go_ret
          exact ⟨ret_int (by rw [hab.out, icmp_eq rfl]), _, rfl⟩
    · obtain ⟨A, c, rfl⟩ := h1.shape
      obtain ⟨B, d, rfl⟩ := h2.shape
      obtain rfl : a = [] := List.eq_nil_of_length_eq_zero (by omega)
      obtain rfl : b = [] := List.eq_nil_of_length_eq_zero (by omega)
      clear h1 h2 hlen h0
      go_enter Tryz.func56, Tryz.ntmps56
      go_wp2
      refine wp_loop_once ?_
      go_wp2
      go_ret
      exact ⟨ret_int rfl, 0, rfl⟩
  · obtain ⟨A, c, rfl⟩ := h1.shape
    obtain ⟨B, d, rfl⟩ := h2.shape
    have h4 : ((a.length : Int) != (b.length : Int)) = true := by rw [bne_iff_ne]; omega
    rcases Nat.lt_or_gt_of_ne hlen with h | h
    · have H3 := Lib.hid (icmp_nat_lt (canon_len_lt ha hb h))
      clear h1 h2 hlen
      go_enter Tryz.func56, Tryz.ntmps56
      go_wp2
      go_ret
      exact ⟨ret_int H3.out.symm, 0, rfl⟩
    · have H3 := Lib.hid (icmp_nat_gt (canon_len_lt hb ha h))
      have hn : ¬ (a.length : Int) < (b.length : Int) := by omega
      clear h1 h2 hlen
      go_enter Tryz.func56, Tryz.ntmps56
      go_wp2
      go_ret
      exact ⟨ret_int H3.out.symm, 0, rfl⟩

end Go.Proofs.YtekipapkcgoieaaGreatDoor

/- The reference's sizes: differences. -/
namespace Go.Proofs.YtekipapkcgoieaaGreatDoor
open Go.RowKit

set_option maxRecDepth 100000 in
set_option maxHeartbeats 800000 in
theorem minus_any (v u : Value) (a b : List Nat) (w : World) (ha : W32 a) (hb : W32 b) (hal : a.length ≤ 100000000) (hle : b.length ≤ a.length) (hge : nv b ≤ nv a) (h1 : Words w v a) (h2 : Words w u b) :
    Calls Tryz.prog 57 #[v, u] w (RWs w (nv a - nv b) a.length) := by
  obtain ⟨i0, hi, hz0, hz1, hz2⟩ := info_parts u32_info
  obtain ⟨A, c, rfl⟩ := h1.shape
  obtain ⟨B, d, rfl⟩ := h2.shape
  have H1 := Lib.hid h1
  have H2 := Lib.hid h2
  clear h1 h2
  go_enter Tryz.func57, Tryz.ntmps57
  go_wp2
  go_loopw [5, 6, 7] (fun t cy i wr => ∃ (k : Nat) (acc : List Nat) (c : Nat) (A' : Option Addr) (cp : Nat), k ≤ a.length ∧ i = .int .i64 (k : Int) ∧ cy = .int .u64 (c : Int) ∧ c ≤ 1 ∧ t = .slice A' k cp ∧
      wr.ownsRow w.heap.size 123 1 (.slice A' k cp) k (acc.map fun x : Nat => Value.int .u32 (x : Int)) ∧ Hid (acc.length = k ∧ W32 acc ∧ nv acc + nv (b.take k) = nv (a.take k) + 4294967296 ^ k * c) ∧ Ext w wr) (fun _ _ i _ => a.length - (intOf i).toNat)
  case atStart =>
    refine ⟨0, [], 0, _, _, Nat.zero_le _, rfl, rfl, by omega, rfl, ?_, ⟨rfl, W32.nil, by simp [nv]⟩, (Ext.refl _).alloc _⟩
    exact ⟨rfl, .inr ⟨w.heap.size, 0, #[], rfl, Nat.le_refl _, heap_alloc_new w _, Nat.le_refl _, Nat.zero_le _, rfl, rfl⟩⟩
  case round =>
    obtain ⟨k, acc, cc, A', cp, hk, rfl, rfl, hcc, rfl, hown, hI, hE⟩ := hrel
    have W1 := H1.out.ext hE
    have W2 := H2.out.ext hE
    obtain ⟨x, hx⟩ : ∃ x, x = a[k]?.getD 0 := ⟨_, rfl⟩
    obtain ⟨y, hy⟩ : ∃ y, y = b[k]?.getD 0 := ⟨_, rfl⟩
    have g1 := cast_get ha k
    have g2 := cast_get hb k
    rw [← hx] at g1
    rw [← hy] at g2
    have c1 : Calls Tryz.prog 67 #[.slice A a.length c, .int .i64 (k : Int)] wr fun e w' => e = .returned (.int .u64 (x : Int)) ∧ wr = w' := by
      rw [hx]; exact word_any _ a k wr ha (by omega) W1
    have c2 : Calls Tryz.prog 67 #[.slice B b.length d, .int .i64 (k : Int)] wr fun e w' => e = .returned (.int .u64 (y : Int)) ∧ wr = w' := by
      rw [hy]; exact word_any _ b k wr hb (by omega) W2
    have HC1 := Lib.hid c1
    have HC2 := Lib.hid c2
    have HX := Lib.hid hx
    have HY := Lib.hid hy
    clear W1 W2 hx hy c1 c2
    have hb0 := hE.size'
    by_cases hlt : k < a.length
    · go_wp2_with fail
      refine HC1.out.mono ?_
      rintro e w' ⟨rfl, rfl⟩
      go_wp2_with fail
      refine HC2.out.mono ?_
      rintro e w' ⟨rfl, rfl⟩
      obtain ⟨T, hT⟩ : ∃ T : Nat, (4294967296 : Int) + (x : Int) - (y : Int) - (cc : Int) = (T : Int) := ⟨4294967296 + x - y - cc, by omega⟩
      have hT2 : T ≤ 8589934591 := by omega
      go_wp2_with (at_builtin; refine Hid.out ?_)
      refine wpList_append_own _ rfl (.tmp 26) (.tmp 29) _ rfl w.heap.size 123 i0 (.int .u32 0) 1 4 Tryz.underlying35 hi hz0 hz1 hz2 rfl (by decide) (.slice A' k cp) k _ rfl (hown.alloc _) ⟨wr.heap.size, 0, none⟩ 1 1 [.int .u32 ((T : Int) % 4294967296)] rfl rfl (cell_one_new _ _ _) (by simp [Value.oneCell']) (by unfold maxLen; omega) (by omega) (by simp; omega) ?_
      intro v' w1 hown' hgrow _
      obtain ⟨g', cap', rfl⟩ := own_succ hown'
      have hE2 : Ext w w1 := (hE.alloc _).grown hgrow (own_block hown)
      clear hown hgrow
      have HT := Lib.hid hT
      clear hT
      go_wp2
      go_roundw
      case rel =>
        obtain ⟨e1, e2, e3⟩ := hI.out
        have hT := HT.out
        refine ⟨k + 1, acc ++ [T % 4294967296], 1 - T / 4294967296, some ⟨g', 0, none⟩, cap', by omega, by go_num, by congr 1; omega, by omega, rfl, ?_, ⟨by simp [e1], e2.append (W32.cons (by omega) W32.nil), ?_⟩, hE2⟩
        · simpa using hown'
        · rw [nv_snoc, nv_take_succ b, nv_take_succ a, ← HX.out, ← HY.out, e1]
          exact diff_step k e3 (by omega)
      case measure => (simp [intOf] <;> omega)
    · obtain ⟨e1, e2, e3⟩ := hI.out
      have E3 := Lib.hid e3
      clear e3
      go_wp2
      go_ret
      have hkM : k = a.length := by omega
      have hv : nv acc = nv a - nv b := by
        have h5 := nv_lt e2
        have e4 := E3.out
        rw [nv_take_all _ _ (by omega), nv_take_all _ _ (by omega)] at e4
        rw [e1] at h5
        rcases Nat.eq_zero_or_pos cc with h9 | h9
        · rw [h9] at e4; omega
        · have : cc = 1 := by omega
          rw [this] at e4; omega
      exact ⟨acc, _, _, _, rfl, Words.of_own (base := w.heap.size) (by rw [e1]; exact hown), e2, hv, by omega, hE⟩

end Go.Proofs.YtekipapkcgoieaaGreatDoor

/- The reference's integers: comparison, sums, differences. -/
namespace Go.Proofs.YtekipapkcgoieaaGreatDoor
open Go.RowKit
attribute [local go_sem ↓] Go.wp_at_zero Go.wp_at_succ

theorem size_nat (v u : Value) (a b : Nat) (w : World) (hal : (wordsOf a).length ≤ 100000000) (hbl : (wordsOf b).length ≤ 100000000) (h1 : IsNat w v a) (h2 : IsNat w u b) :
    Calls Tryz.prog 56 #[v, u] w fun e w' => e = .returned (.int .i64 (icmp a b)) ∧ ∃ n, w' = w.drewN n := by
  have := size_any v u _ _ w (wordsOf_canon a) (wordsOf_canon b) (by omega) (by omega) h1 h2
  rwa [nv_wordsOf, nv_wordsOf] at this
theorem plus_nat (v u : Value) (a b : Nat) (w : World) (hal : (wordsOf a).length ≤ 1000000) (hbl : (wordsOf b).length ≤ 1000000) (h1 : IsNat w v a) (h2 : IsNat w u b) :
    Calls Tryz.prog 55 #[v, u] w (RWs w (a + b) 1000001) := by
  have := plus_any v u _ _ w (wordsOf_w32 a) (wordsOf_w32 b) (by omega) (by omega) h1 h2
  rw [nv_wordsOf, nv_wordsOf] at this
  refine this.mono ?_
  rintro e w' ⟨ws, A, n, c, h1, h2, h3, h4, h5, h6⟩
  exact ⟨ws, A, n, c, h1, h2, h3, h4, by omega, h6⟩
theorem minus_nat (v u : Value) (a b : Nat) (w : World) (hal : (wordsOf a).length ≤ 1000000) (hle : b ≤ a) (h1 : IsNat w v a) (h2 : IsNat w u b) :
    Calls Tryz.prog 57 #[v, u] w (RWs w (a - b) 1000001) := by
  have := minus_any v u _ _ w (wordsOf_w32 a) (wordsOf_w32 b) (by omega) (wordsOf_len_mono hle) (by rwa [nv_wordsOf, nv_wordsOf]) h1 h2
  rw [nv_wordsOf, nv_wordsOf] at this
  refine this.mono ?_
  rintro e w' ⟨ws, A, n, c, h1, h2, h3, h4, h5, h6⟩
  exact ⟨ws, A, n, c, h1, h2, h3, h4, by omega, h6⟩

theorem icmp_neg2 {x y : Int} (h1 : x < 0) (h2 : y < 0) : icmp (y.natAbs : Int) (x.natAbs : Int) = icmp x y := by
  unfold icmp
  by_cases h3 : x < y
  · rw [if_pos (by omega), if_pos h3]
  · by_cases h4 : y < x
    · rw [if_neg (by omega), if_pos (by omega), if_neg h3, if_pos h4]
    · rw [if_neg (by omega), if_neg (by omega), if_neg h3, if_neg h4]
theorem icmp_pos2 {x y : Int} (h1 : ¬ x < 0) (h2 : ¬ y < 0) : icmp (x.natAbs : Int) (y.natAbs : Int) = icmp x y := by
  rw [show ((x.natAbs : Nat) : Int) = x from by omega, show ((y.natAbs : Nat) : Int) = y from by omega]
theorem icmp_same2 {x y : Int} (h : decide (x < 0) = decide (y < 0)) : (icmp (x.natAbs : Int) (y.natAbs : Int) == 0) = decide (x = y) := by
  by_cases h1 : x < 0
  · have h2 : y < 0 := by simpa [h1] using h.symm
    by_cases h3 : x = y
    · rw [icmp_eq (by omega)]; simp [h3]
    · rcases Nat.lt_or_gt_of_ne (show x.natAbs ≠ y.natAbs by omega) with h4 | h4
      · rw [icmp_nat_lt h4]; simp [h3]
      · rw [icmp_nat_gt h4]; simp [h3]
  · have h2 : ¬ y < 0 := by intro h2; simp [h1, h2] at h
    by_cases h3 : x = y
    · rw [icmp_eq (by omega)]; simp [h3]
    · rcases Nat.lt_or_gt_of_ne (show x.natAbs ≠ y.natAbs by omega) with h4 | h4
      · rw [icmp_nat_lt h4]; simp [h3]
      · rw [icmp_nat_gt h4]; simp [h3]

set_option maxHeartbeats 1000000 in
theorem iCmp1_any (b1 v1 b2 v2 : Value) (x y : Int) (w : World) (hx : (wordsOf x.natAbs).length ≤ 1000000) (hy : (wordsOf y.natAbs).length ≤ 1000000) (h1 : IsInt w b1 v1 x) (h2 : IsInt w b2 v2 y) :
    Calls Tryz.prog 134 #[.agg #[b1, v1], .agg #[b2, v2]] w fun e w' => e = .returned (.int .i64 (icmp x y)) ∧ Ext w w' := by
  obtain ⟨s, A, n, c, rfl, rfl, hs, hn, hN⟩ := h1.form
  obtain ⟨s', A', n', c', rfl, rfl, hs', hn', hN'⟩ := h2.form
  have H1 := Lib.hid hN
  have H2 := Lib.hid hN'
  by_cases hss : s = s'
  · subst hss
    cases s
    · have HF := Lib.hid (icmp_pos2 (show ¬ x < 0 by simpa using hs.symm) (show ¬ y < 0 by simpa using hs'.symm))
      clear h1 h2 hN hN' hs hs' hn hn'
      go_enter Tryz.func134, Tryz.ntmps134
      go_wp2_with fail
      obtain ⟨W, hW⟩ : ∃ W : World, W = (w.alloc (.cells #[.bool false, .slice A n c] 37)).alloc (.cells #[.bool false, .slice A' n' c'] 37) := ⟨_, rfl⟩
      rw [← hW]
      have hE : Ext w W := by rw [hW]; exact ((Ext.refl w).alloc _).alloc _
      have hB1 : Blk W (w.heap.size) 37 #[.bool false, .slice A n c] := by rw [hW]; exact (Blk.newAt _ _ _ (by simp)).alloc _
      have hB2 : Blk W (w.heap.size + 1) 37 #[.bool false, .slice A' n' c'] := by rw [hW]; exact Blk.newAt _ _ _ (by simp)
      clear hW
      have HK : Hid (∀ w', Ext W w' → Ext w w' ∧ w'.cell? ⟨w.heap.size, 0, none⟩ = some (.bool false) ∧ w'.cell? ⟨w.heap.size, 1, none⟩ = some (.slice A n c) ∧ w'.cell? ⟨w.heap.size + 1, 0, none⟩ = some (.bool false) ∧ w'.cell? ⟨w.heap.size + 1, 1, none⟩ = some (.slice A' n' c')) := fun w' h => ⟨hE.trans h, (hB1.ext h).cell 0, (hB1.ext h).cell 1, (hB2.ext h).cell 0, (hB2.ext h).cell 1⟩
      refine (size_nat _ _ _ _ _ (by omega) (by omega) (H1.out.ext (by (repeat (first | with_reducible assumption | with_reducible exact Ext.refl _ | with_reducible refine Ext.drew ?_ | with_reducible refine Ext.drewN ?_ _ | with_reducible refine Ext.alloc ?_ _ | with_reducible refine Ext.set2 ?_ (by omega) _ _ | with_reducible refine Ext.setCell ?_ (by first | omega | (simp; done) | (simp; omega)) _ | with_reducible refine Ext.trans ?_ (by with_reducible assumption))))) (H2.out.ext (by (repeat (first | with_reducible assumption | with_reducible exact Ext.refl _ | with_reducible refine Ext.drew ?_ | with_reducible refine Ext.drewN ?_ _ | with_reducible refine Ext.alloc ?_ _ | with_reducible refine Ext.set2 ?_ (by omega) _ _ | with_reducible refine Ext.setCell ?_ (by first | omega | (simp; done) | (simp; omega)) _ | with_reducible refine Ext.trans ?_ (by with_reducible assumption)))))).mono ?_
      rintro e w2 ⟨rfl, nd, rfl⟩
      go_wp2
      go_ret
      exact ⟨ret_int HF.out, hE.trans (by (repeat (first | with_reducible assumption | with_reducible exact Ext.refl _ | with_reducible refine Ext.drew ?_ | with_reducible refine Ext.drewN ?_ _ | with_reducible refine Ext.alloc ?_ _ | with_reducible refine Ext.set2 ?_ (by omega) _ _ | with_reducible refine Ext.setCell ?_ (by first | omega | (simp; done) | (simp; omega)) _ | with_reducible refine Ext.trans ?_ (by with_reducible assumption))))⟩
    · have HF := Lib.hid (icmp_neg2 (show x < 0 by simpa using hs.symm) (show y < 0 by simpa using hs'.symm))
      clear h1 h2 hN hN' hs hs' hn hn'
      go_enter Tryz.func134, Tryz.ntmps134
      go_wp2_with fail
      obtain ⟨W, hW⟩ : ∃ W : World, W = (w.alloc (.cells #[.bool true, .slice A n c] 37)).alloc (.cells #[.bool true, .slice A' n' c'] 37) := ⟨_, rfl⟩
      rw [← hW]
      have hE : Ext w W := by rw [hW]; exact ((Ext.refl w).alloc _).alloc _
      have hB1 : Blk W (w.heap.size) 37 #[.bool true, .slice A n c] := by rw [hW]; exact (Blk.newAt _ _ _ (by simp)).alloc _
      have hB2 : Blk W (w.heap.size + 1) 37 #[.bool true, .slice A' n' c'] := by rw [hW]; exact Blk.newAt _ _ _ (by simp)
      clear hW
      have HK : Hid (∀ w', Ext W w' → Ext w w' ∧ w'.cell? ⟨w.heap.size, 0, none⟩ = some (.bool true) ∧ w'.cell? ⟨w.heap.size, 1, none⟩ = some (.slice A n c) ∧ w'.cell? ⟨w.heap.size + 1, 0, none⟩ = some (.bool true) ∧ w'.cell? ⟨w.heap.size + 1, 1, none⟩ = some (.slice A' n' c')) := fun w' h => ⟨hE.trans h, (hB1.ext h).cell 0, (hB1.ext h).cell 1, (hB2.ext h).cell 0, (hB2.ext h).cell 1⟩
      refine (size_nat _ _ _ _ _ (by omega) (by omega) (H2.out.ext (by (repeat (first | with_reducible assumption | with_reducible exact Ext.refl _ | with_reducible refine Ext.drew ?_ | with_reducible refine Ext.drewN ?_ _ | with_reducible refine Ext.alloc ?_ _ | with_reducible refine Ext.set2 ?_ (by omega) _ _ | with_reducible refine Ext.setCell ?_ (by first | omega | (simp; done) | (simp; omega)) _ | with_reducible refine Ext.trans ?_ (by with_reducible assumption))))) (H1.out.ext (by (repeat (first | with_reducible assumption | with_reducible exact Ext.refl _ | with_reducible refine Ext.drew ?_ | with_reducible refine Ext.drewN ?_ _ | with_reducible refine Ext.alloc ?_ _ | with_reducible refine Ext.set2 ?_ (by omega) _ _ | with_reducible refine Ext.setCell ?_ (by first | omega | (simp; done) | (simp; omega)) _ | with_reducible refine Ext.trans ?_ (by with_reducible assumption)))))).mono ?_
      rintro e w2 ⟨rfl, nd, rfl⟩
      go_wp2
      go_ret
      exact ⟨ret_int HF.out, hE.trans (by (repeat (first | with_reducible assumption | with_reducible exact Ext.refl _ | with_reducible refine Ext.drew ?_ | with_reducible refine Ext.drewN ?_ _ | with_reducible refine Ext.alloc ?_ _ | with_reducible refine Ext.set2 ?_ (by omega) _ _ | with_reducible refine Ext.setCell ?_ (by first | omega | (simp; done) | (simp; omega)) _ | with_reducible refine Ext.trans ?_ (by with_reducible assumption))))⟩
  · obtain rfl : s' = !s := by cases s <;> cases s' <;> simp_all
    cases s
    · have HF := Lib.hid (icmp_gt (a := x) (b := y) (by have k1 : ¬ x < 0 := by simpa using hs.symm
                                                        have k2 : y < 0 := by simpa using hs'.symm
                                                        omega))
      clear h1 h2 hN hN' hs hs' hn hn' hss
      go_enter Tryz.func134, Tryz.ntmps134
      go_wp2
      go_ret
      exact ⟨ret_int HF.out.symm, by (repeat (first | with_reducible assumption | with_reducible exact Ext.refl _ | with_reducible refine Ext.drew ?_ | with_reducible refine Ext.drewN ?_ _ | with_reducible refine Ext.alloc ?_ _ | with_reducible refine Ext.set2 ?_ (by omega) _ _ | with_reducible refine Ext.setCell ?_ (by first | omega | (simp; done) | (simp; omega)) _ | with_reducible refine Ext.trans ?_ (by with_reducible assumption)))⟩
    · have HF := Lib.hid (icmp_lt (a := x) (b := y) (by have k1 : x < 0 := by simpa using hs.symm
                                                        have k2 : ¬ y < 0 := by simpa using hs'.symm
                                                        omega))
      clear h1 h2 hN hN' hs hs' hn hn' hss
      go_enter Tryz.func134, Tryz.ntmps134
      go_wp2
      go_ret
      exact ⟨ret_int HF.out.symm, by (repeat (first | with_reducible assumption | with_reducible exact Ext.refl _ | with_reducible refine Ext.drew ?_ | with_reducible refine Ext.drewN ?_ _ | with_reducible refine Ext.alloc ?_ _ | with_reducible refine Ext.set2 ?_ (by omega) _ _ | with_reducible refine Ext.setCell ?_ (by first | omega | (simp; done) | (simp; omega)) _ | with_reducible refine Ext.trans ?_ (by with_reducible assumption)))⟩

set_option maxHeartbeats 1000000 in
theorem iSame1_any (b1 v1 b2 v2 : Value) (x y : Int) (w : World) (hx : (wordsOf x.natAbs).length ≤ 1000000) (hy : (wordsOf y.natAbs).length ≤ 1000000) (h1 : IsInt w b1 v1 x) (h2 : IsInt w b2 v2 y) :
    Calls Tryz.prog 41 #[.agg #[b1, v1], .agg #[b2, v2]] w fun e w' => e = .returned (.bool (decide (x = y))) ∧ Ext w w' := by
  obtain ⟨s, A, n, c, rfl, rfl, hs, hn, hN⟩ := h1.form
  obtain ⟨s', A', n', c', rfl, rfl, hs', hn', hN'⟩ := h2.form
  have H1 := Lib.hid hN
  have H2 := Lib.hid hN'
  by_cases hss : s = s'
  · subst hss
    have HF := Lib.hid (icmp_same2 (hs.symm.trans hs'))
    clear h1 h2 hN hN' hs hs' hn hn'
    go_enter Tryz.func41, Tryz.ntmps41
    go_wp2_with fail
    obtain ⟨W, hW⟩ : ∃ W : World, W = (w.alloc (.cells #[.bool s, .slice A n c] 37)).alloc (.cells #[.bool s, .slice A' n' c'] 37) := ⟨_, rfl⟩
    rw [← hW]
    have hE : Ext w W := by rw [hW]; exact ((Ext.refl w).alloc _).alloc _
    have hB1 : Blk W (w.heap.size) 37 #[.bool s, .slice A n c] := by rw [hW]; exact (Blk.newAt _ _ _ (by simp)).alloc _
    have hB2 : Blk W (w.heap.size + 1) 37 #[.bool s, .slice A' n' c'] := by rw [hW]; exact Blk.newAt _ _ _ (by simp)
    clear hW
    have HK : Hid (∀ w', Ext W w' → Ext w w' ∧ w'.cell? ⟨w.heap.size, 0, none⟩ = some (.bool s) ∧ w'.cell? ⟨w.heap.size, 1, none⟩ = some (.slice A n c) ∧ w'.cell? ⟨w.heap.size + 1, 0, none⟩ = some (.bool s) ∧ w'.cell? ⟨w.heap.size + 1, 1, none⟩ = some (.slice A' n' c')) := fun w' h => ⟨hE.trans h, (hB1.ext h).cell 0, (hB1.ext h).cell 1, (hB2.ext h).cell 0, (hB2.ext h).cell 1⟩
    refine (size_nat _ _ _ _ _ (by omega) (by omega) (H1.out.ext (by (repeat (first | with_reducible assumption | with_reducible exact Ext.refl _ | with_reducible refine Ext.drew ?_ | with_reducible refine Ext.drewN ?_ _ | with_reducible refine Ext.alloc ?_ _ | with_reducible refine Ext.set2 ?_ (by omega) _ _ | with_reducible refine Ext.setCell ?_ (by first | omega | (simp; done) | (simp; omega)) _ | with_reducible refine Ext.trans ?_ (by with_reducible assumption))))) (H2.out.ext (by (repeat (first | with_reducible assumption | with_reducible exact Ext.refl _ | with_reducible refine Ext.drew ?_ | with_reducible refine Ext.drewN ?_ _ | with_reducible refine Ext.alloc ?_ _ | with_reducible refine Ext.set2 ?_ (by omega) _ _ | with_reducible refine Ext.setCell ?_ (by first | omega | (simp; done) | (simp; omega)) _ | with_reducible refine Ext.trans ?_ (by with_reducible assumption)))))).mono ?_
    rintro e w2 ⟨rfl, nd, rfl⟩
    go_wp2
    go_ret
    exact ⟨by rw [← HF.out]; rfl, hE.trans (by (repeat (first | with_reducible assumption | with_reducible exact Ext.refl _ | with_reducible refine Ext.drew ?_ | with_reducible refine Ext.drewN ?_ _ | with_reducible refine Ext.alloc ?_ _ | with_reducible refine Ext.set2 ?_ (by omega) _ _ | with_reducible refine Ext.setCell ?_ (by first | omega | (simp; done) | (simp; omega)) _ | with_reducible refine Ext.trans ?_ (by with_reducible assumption))))⟩
  · have HF := Lib.hid (show decide (x = y) = false by
      rw [decide_eq_false_iff_not]; intro e; subst e; exact hss (hs.trans hs'.symm))
    obtain rfl : s' = !s := by cases s <;> cases s' <;> simp_all
    clear h1 h2 hN hN' hs hs' hn hn' hss
    go_enter Tryz.func41, Tryz.ntmps41
    go_wp2
    go_ret
    exact ⟨by rw [HF.out]; rfl, by (repeat (first | with_reducible assumption | with_reducible exact Ext.refl _ | with_reducible refine Ext.drew ?_ | with_reducible refine Ext.drewN ?_ _ | with_reducible refine Ext.alloc ?_ _ | with_reducible refine Ext.set2 ?_ (by omega) _ _ | with_reducible refine Ext.setCell ?_ (by first | omega | (simp; done) | (simp; omega)) _ | with_reducible refine Ext.trans ?_ (by with_reducible assumption)))⟩

set_option maxRecDepth 100000 in
set_option maxHeartbeats 1000000 in
theorem iAdd1_any (b1 v1 b2 v2 : Value) (x y : Int) (w : World) (hx : (wordsOf x.natAbs).length ≤ 1000000) (hy : (wordsOf y.natAbs).length ≤ 1000000) (h1 : IsInt w b1 v1 x) (h2 : IsInt w b2 v2 y) :
    Calls Tryz.prog 20 #[.agg #[b1, v1], .agg #[b2, v2]] w (RInt w (x + y)) := by
  obtain ⟨s, A, n, c, rfl, rfl, hs, hn, hN⟩ := h1.form
  obtain ⟨s', A', n', c', rfl, rfl, hs', hn', hN'⟩ := h2.form
  have H1 := Lib.hid hN
  have H2 := Lib.hid hN'
  by_cases hss : s = s'
  · have HF := Lib.hid (signed_add_same (hs.symm.trans (hss.trans hs')))
    rw [← hs] at HF
    subst hss
    clear h1 h2 hN hN' hs hs' hn hn'
    go_enter Tryz.func20, Tryz.ntmps20
    go_wp2_with fail
    obtain ⟨W, hW⟩ : ∃ W : World, W = ((w.alloc (.cells #[.bool s, .slice A n c] 37)).alloc (.cells #[.bool s, .slice A' n' c'] 37)).alloc (.cells #[.bool false, .slice none 0 0] 37) := ⟨_, rfl⟩
    rw [← hW]
    have hE : Ext w W := by rw [hW]; exact (((Ext.refl w).alloc _).alloc _).alloc _
    have hB1 : Blk W (w.heap.size) 37 #[.bool s, .slice A n c] := by rw [hW]; exact ((Blk.newAt _ _ _ (by simp)).alloc _).alloc _
    have hB2 : Blk W (w.heap.size + 1) 37 #[.bool s, .slice A' n' c'] := by rw [hW]; exact (Blk.newAt _ _ _ (by simp)).alloc _
    have hB3 : Blk W (w.heap.size + 1 + 1) 37 #[.bool false, .slice none 0 0] := by rw [hW]; exact Blk.newAt _ _ _ (by simp)
    clear hW
    have HK : Hid (∀ w', Ext W w' → Ext w w' ∧ w'.cell? ⟨w.heap.size, 0, none⟩ = some (.bool s) ∧ w'.cell? ⟨w.heap.size, 1, none⟩ = some (.slice A n c) ∧ w'.cell? ⟨w.heap.size + 1, 0, none⟩ = some (.bool s) ∧ w'.cell? ⟨w.heap.size + 1, 1, none⟩ = some (.slice A' n' c')) := fun w' h => ⟨hE.trans h, (hB1.ext h).cell 0, (hB1.ext h).cell 1, (hB2.ext h).cell 0, (hB2.ext h).cell 1⟩
    have HK2 : Hid (∀ w' w'', w'.grownBy w'' (some (w.heap.size + 1 + 1)) → Ext W w' → Ext w w'' ∧ w''.cell? ⟨w.heap.size, 0, none⟩ = some (.bool s) ∧ w''.cell? ⟨w.heap.size, 1, none⟩ = some (.slice A n c) ∧ w''.cell? ⟨w.heap.size + 1, 0, none⟩ = some (.bool s) ∧ w''.cell? ⟨w.heap.size + 1, 1, none⟩ = some (.slice A' n' c')) := fun w' w'' hg h => ⟨(hE.trans h).grown hg (by intro k hk; injection hk with hk; omega), (hg.cell_far ⟨w.heap.size, 0, none⟩ (hB1.ext h).lt (by first | (simp; done) | (simp; omega))).trans ((hB1.ext h).cell 0), (hg.cell_far ⟨w.heap.size, 1, none⟩ (hB1.ext h).lt (by first | (simp; done) | (simp; omega))).trans ((hB1.ext h).cell 1), (hg.cell_far ⟨w.heap.size + 1, 0, none⟩ (hB2.ext h).lt (by first | (simp; done) | (simp; omega))).trans ((hB2.ext h).cell 0), (hg.cell_far ⟨w.heap.size + 1, 1, none⟩ (hB2.ext h).lt (by first | (simp; done) | (simp; omega))).trans ((hB2.ext h).cell 1)⟩
    go_region_held3 (fun w' => Ext w w' ∧ w'.cell? ⟨w.heap.size, 0, none⟩ = some (.bool s) ∧ w'.cell? ⟨w.heap.size, 1, none⟩ = some (.slice A n c) ∧ w'.cell? ⟨w.heap.size + 1, 0, none⟩ = some (.bool s) ∧ w'.cell? ⟨w.heap.size + 1, 1, none⟩ = some (.slice A' n' c'))
      (first | (refine HK.out _ ?_; (repeat (first | with_reducible assumption | with_reducible exact Ext.refl _ | with_reducible refine Ext.drew ?_ | with_reducible refine Ext.drewN ?_ _ | with_reducible refine Ext.alloc ?_ _ | with_reducible refine Ext.set2 ?_ (by omega) _ _ | with_reducible refine Ext.setCell ?_ (by first | omega | (simp; done) | (simp; omega)) _ | with_reducible refine Ext.trans ?_ (by with_reducible assumption))); done) | exact HK2.out _ _ (by (repeat (first | apply grow_set | exact World.grownBy.refl _ _))) (by (repeat (first | with_reducible assumption | with_reducible exact Ext.refl _ | with_reducible refine Ext.drew ?_ | with_reducible refine Ext.drewN ?_ _ | with_reducible refine Ext.alloc ?_ _ | with_reducible refine Ext.set2 ?_ (by omega) _ _ | with_reducible refine Ext.setCell ?_ (by first | omega | (simp; done) | (simp; omega)) _ | with_reducible refine Ext.trans ?_ (by with_reducible assumption)))))
      (first | (go_at_call 55; (with_reducible refine (plus_nat _ _ _ _ _ hx hy (H1.out.ext (by (repeat (first | with_reducible assumption | with_reducible exact Ext.refl _ | with_reducible refine Ext.drew ?_ | with_reducible refine Ext.drewN ?_ _ | with_reducible refine Ext.alloc ?_ _ | with_reducible refine Ext.set2 ?_ (by omega) _ _ | with_reducible refine Ext.setCell ?_ (by first | omega | (simp; done) | (simp; omega)) _ | with_reducible refine Ext.trans ?_ (by with_reducible assumption))))) (H2.out.ext (by (repeat (first | with_reducible assumption | with_reducible exact Ext.refl _ | with_reducible refine Ext.drew ?_ | with_reducible refine Ext.drewN ?_ _ | with_reducible refine Ext.alloc ?_ _ | with_reducible refine Ext.set2 ?_ (by omega) _ _ | with_reducible refine Ext.setCell ?_ (by first | omega | (simp; done) | (simp; omega)) _ | with_reducible refine Ext.trans ?_ (by with_reducible assumption)))))).mono ?_); rintro e w2 ⟨ws, A2, n2, c2, rfl, hm, hw, hv, hl, he1⟩; have HV := Lib.hid hv; clear hv) | (go_at_call 40; (with_reducible refine (made_any _ _ ws _ hw (by omega) (hm.ext (by (repeat (first | with_reducible assumption | with_reducible exact Ext.refl _ | with_reducible refine Ext.drew ?_ | with_reducible refine Ext.drewN ?_ _ | with_reducible refine Ext.alloc ?_ _ | with_reducible refine Ext.set2 ?_ (by omega) _ _ | with_reducible refine Ext.setCell ?_ (by first | omega | (simp; done) | (simp; omega)) _ | with_reducible refine Ext.trans ?_ (by with_reducible assumption)))))).mono ?_); rintro e w3 ⟨s3, A3, n3, c3, rfl, hm3, he3⟩; have hq3 := (hB3.ext (show Ext W w3 by (repeat (first | with_reducible assumption | with_reducible exact Ext.refl _ | with_reducible refine Ext.drew ?_ | with_reducible refine Ext.drewN ?_ _ | with_reducible refine Ext.alloc ?_ _ | with_reducible refine Ext.set2 ?_ (by omega) _ _ | with_reducible refine Ext.setCell ?_ (by first | omega | (simp; done) | (simp; omega)) _ | with_reducible refine Ext.trans ?_ (by with_reducible assumption))))).two))
    go_wp2
    refine bodyPost_ret (v := .agg #[.bool s3, .slice A3 n3 c3]) (by simp [results, Tryz.results20, go_sem, hq3]) rfl ?_
    have hEE : Ext W w3 := by (repeat (first | with_reducible assumption | with_reducible exact Ext.refl _ | with_reducible refine Ext.drew ?_ | with_reducible refine Ext.drewN ?_ _ | with_reducible refine Ext.alloc ?_ _ | with_reducible refine Ext.set2 ?_ (by omega) _ _ | with_reducible refine Ext.setCell ?_ (by first | omega | (simp; done) | (simp; omega)) _ | with_reducible refine Ext.trans ?_ (by with_reducible assumption)))
    rw [HV.out, HF.out] at hm3
    exact RInt.close hE hEE hB3 (by omega) hm3
  · have hne : decide (x < 0) ≠ decide (y < 0) := fun e => hss (hs.trans (e.trans hs'.symm))
    have hsn : s' = !s := by cases s <;> cases s' <;> simp_all
    by_cases hlt : x.natAbs < y.natAbs
    · have HF := Lib.hid (signed_add_lt hne hlt)
      rw [← hs'] at HF
      have hi : ¬ 0 ≤ icmp (x.natAbs : Int) (y.natAbs : Int) := by rw [icmp_nat_lt hlt]; omega
      subst hsn
      have hle := Nat.le_of_lt hlt
      clear h1 h2 hN hN' hs hs' hn hn' hss hne
      go_enter Tryz.func20, Tryz.ntmps20
      go_wp2_with fail
      obtain ⟨W, hW⟩ : ∃ W : World, W = ((w.alloc (.cells #[.bool s, .slice A n c] 37)).alloc (.cells #[.bool (!s), .slice A' n' c'] 37)).alloc (.cells #[.bool false, .slice none 0 0] 37) := ⟨_, rfl⟩
      rw [← hW]
      have hE : Ext w W := by rw [hW]; exact (((Ext.refl w).alloc _).alloc _).alloc _
      have hB1 : Blk W (w.heap.size) 37 #[.bool s, .slice A n c] := by rw [hW]; exact ((Blk.newAt _ _ _ (by simp)).alloc _).alloc _
      have hB2 : Blk W (w.heap.size + 1) 37 #[.bool (!s), .slice A' n' c'] := by rw [hW]; exact (Blk.newAt _ _ _ (by simp)).alloc _
      have hB3 : Blk W (w.heap.size + 1 + 1) 37 #[.bool false, .slice none 0 0] := by rw [hW]; exact Blk.newAt _ _ _ (by simp)
      clear hW
      have HK : Hid (∀ w', Ext W w' → Ext w w' ∧ w'.cell? ⟨w.heap.size, 0, none⟩ = some (.bool s) ∧ w'.cell? ⟨w.heap.size, 1, none⟩ = some (.slice A n c) ∧ w'.cell? ⟨w.heap.size + 1, 0, none⟩ = some (.bool (!s)) ∧ w'.cell? ⟨w.heap.size + 1, 1, none⟩ = some (.slice A' n' c')) := fun w' h => ⟨hE.trans h, (hB1.ext h).cell 0, (hB1.ext h).cell 1, (hB2.ext h).cell 0, (hB2.ext h).cell 1⟩
      have HK2 : Hid (∀ w' w'', w'.grownBy w'' (some (w.heap.size + 1 + 1)) → Ext W w' → Ext w w'' ∧ w''.cell? ⟨w.heap.size, 0, none⟩ = some (.bool s) ∧ w''.cell? ⟨w.heap.size, 1, none⟩ = some (.slice A n c) ∧ w''.cell? ⟨w.heap.size + 1, 0, none⟩ = some (.bool (!s)) ∧ w''.cell? ⟨w.heap.size + 1, 1, none⟩ = some (.slice A' n' c')) := fun w' w'' hg h => ⟨(hE.trans h).grown hg (by intro k hk; injection hk with hk; omega), (hg.cell_far ⟨w.heap.size, 0, none⟩ (hB1.ext h).lt (by first | (simp; done) | (simp; omega))).trans ((hB1.ext h).cell 0), (hg.cell_far ⟨w.heap.size, 1, none⟩ (hB1.ext h).lt (by first | (simp; done) | (simp; omega))).trans ((hB1.ext h).cell 1), (hg.cell_far ⟨w.heap.size + 1, 0, none⟩ (hB2.ext h).lt (by first | (simp; done) | (simp; omega))).trans ((hB2.ext h).cell 0), (hg.cell_far ⟨w.heap.size + 1, 1, none⟩ (hB2.ext h).lt (by first | (simp; done) | (simp; omega))).trans ((hB2.ext h).cell 1)⟩
      refine (size_nat _ _ _ _ _ (by omega) (by omega) (H1.out.ext (by (repeat (first | with_reducible assumption | with_reducible exact Ext.refl _ | with_reducible refine Ext.drew ?_ | with_reducible refine Ext.drewN ?_ _ | with_reducible refine Ext.alloc ?_ _ | with_reducible refine Ext.set2 ?_ (by omega) _ _ | with_reducible refine Ext.setCell ?_ (by first | omega | (simp; done) | (simp; omega)) _ | with_reducible refine Ext.trans ?_ (by with_reducible assumption))))) (H2.out.ext (by (repeat (first | with_reducible assumption | with_reducible exact Ext.refl _ | with_reducible refine Ext.drew ?_ | with_reducible refine Ext.drewN ?_ _ | with_reducible refine Ext.alloc ?_ _ | with_reducible refine Ext.set2 ?_ (by omega) _ _ | with_reducible refine Ext.setCell ?_ (by first | omega | (simp; done) | (simp; omega)) _ | with_reducible refine Ext.trans ?_ (by with_reducible assumption)))))).mono ?_
      rintro e w2 ⟨rfl, nd, rfl⟩
      go_wp2_with fail
      go_region_held3 (fun w' => Ext w w' ∧ w'.cell? ⟨w.heap.size, 0, none⟩ = some (.bool s) ∧ w'.cell? ⟨w.heap.size, 1, none⟩ = some (.slice A n c) ∧ w'.cell? ⟨w.heap.size + 1, 0, none⟩ = some (.bool (!s)) ∧ w'.cell? ⟨w.heap.size + 1, 1, none⟩ = some (.slice A' n' c'))
        (first | (refine HK.out _ ?_; (repeat (first | with_reducible assumption | with_reducible exact Ext.refl _ | with_reducible refine Ext.drew ?_ | with_reducible refine Ext.drewN ?_ _ | with_reducible refine Ext.alloc ?_ _ | with_reducible refine Ext.set2 ?_ (by omega) _ _ | with_reducible refine Ext.setCell ?_ (by first | omega | (simp; done) | (simp; omega)) _ | with_reducible refine Ext.trans ?_ (by with_reducible assumption))); done) | exact HK2.out _ _ (by (repeat (first | apply grow_set | exact World.grownBy.refl _ _))) (by (repeat (first | with_reducible assumption | with_reducible exact Ext.refl _ | with_reducible refine Ext.drew ?_ | with_reducible refine Ext.drewN ?_ _ | with_reducible refine Ext.alloc ?_ _ | with_reducible refine Ext.set2 ?_ (by omega) _ _ | with_reducible refine Ext.setCell ?_ (by first | omega | (simp; done) | (simp; omega)) _ | with_reducible refine Ext.trans ?_ (by with_reducible assumption)))))
        (first | (go_at_call 57; (with_reducible refine (minus_nat _ _ _ _ _ hy hle (H2.out.ext (by (repeat (first | with_reducible assumption | with_reducible exact Ext.refl _ | with_reducible refine Ext.drew ?_ | with_reducible refine Ext.drewN ?_ _ | with_reducible refine Ext.alloc ?_ _ | with_reducible refine Ext.set2 ?_ (by omega) _ _ | with_reducible refine Ext.setCell ?_ (by first | omega | (simp; done) | (simp; omega)) _ | with_reducible refine Ext.trans ?_ (by with_reducible assumption))))) (H1.out.ext (by (repeat (first | with_reducible assumption | with_reducible exact Ext.refl _ | with_reducible refine Ext.drew ?_ | with_reducible refine Ext.drewN ?_ _ | with_reducible refine Ext.alloc ?_ _ | with_reducible refine Ext.set2 ?_ (by omega) _ _ | with_reducible refine Ext.setCell ?_ (by first | omega | (simp; done) | (simp; omega)) _ | with_reducible refine Ext.trans ?_ (by with_reducible assumption)))))).mono ?_); rintro e w2 ⟨ws, A2, n2, c2, rfl, hm, hw, hv, hl, he1⟩; have HV := Lib.hid hv; clear hv) | (go_at_call 40; (with_reducible refine (made_any _ _ ws _ hw (by omega) (hm.ext (by (repeat (first | with_reducible assumption | with_reducible exact Ext.refl _ | with_reducible refine Ext.drew ?_ | with_reducible refine Ext.drewN ?_ _ | with_reducible refine Ext.alloc ?_ _ | with_reducible refine Ext.set2 ?_ (by omega) _ _ | with_reducible refine Ext.setCell ?_ (by first | omega | (simp; done) | (simp; omega)) _ | with_reducible refine Ext.trans ?_ (by with_reducible assumption)))))).mono ?_); rintro e w3 ⟨s3, A3, n3, c3, rfl, hm3, he3⟩; have hq3 := (hB3.ext (show Ext W w3 by (repeat (first | with_reducible assumption | with_reducible exact Ext.refl _ | with_reducible refine Ext.drew ?_ | with_reducible refine Ext.drewN ?_ _ | with_reducible refine Ext.alloc ?_ _ | with_reducible refine Ext.set2 ?_ (by omega) _ _ | with_reducible refine Ext.setCell ?_ (by first | omega | (simp; done) | (simp; omega)) _ | with_reducible refine Ext.trans ?_ (by with_reducible assumption))))).two))
      go_wp2
      refine bodyPost_ret (v := .agg #[.bool s3, .slice A3 n3 c3]) (by simp [results, Tryz.results20, go_sem, hq3]) rfl ?_
      have hEE : Ext W w3 := by (repeat (first | with_reducible assumption | with_reducible exact Ext.refl _ | with_reducible refine Ext.drew ?_ | with_reducible refine Ext.drewN ?_ _ | with_reducible refine Ext.alloc ?_ _ | with_reducible refine Ext.set2 ?_ (by omega) _ _ | with_reducible refine Ext.setCell ?_ (by first | omega | (simp; done) | (simp; omega)) _ | with_reducible refine Ext.trans ?_ (by with_reducible assumption)))
      rw [HV.out, HF.out] at hm3
      exact RInt.close hE hEE hB3 (by omega) hm3
    · have hle : y.natAbs ≤ x.natAbs := by omega
      have HF := Lib.hid (signed_add_ge hne hle)
      rw [← hs] at HF
      have hi : 0 ≤ icmp (x.natAbs : Int) (y.natAbs : Int) := by
        rcases Nat.lt_or_eq_of_le hle with h | h
        · rw [icmp_nat_gt h]; omega
        · rw [icmp_nat_eq h.symm]; omega
      subst hsn
      clear h1 h2 hN hN' hs hs' hn hn' hss hne hlt
      go_enter Tryz.func20, Tryz.ntmps20
      go_wp2_with fail
      obtain ⟨W, hW⟩ : ∃ W : World, W = ((w.alloc (.cells #[.bool s, .slice A n c] 37)).alloc (.cells #[.bool (!s), .slice A' n' c'] 37)).alloc (.cells #[.bool false, .slice none 0 0] 37) := ⟨_, rfl⟩
      rw [← hW]
      have hE : Ext w W := by rw [hW]; exact (((Ext.refl w).alloc _).alloc _).alloc _
      have hB1 : Blk W (w.heap.size) 37 #[.bool s, .slice A n c] := by rw [hW]; exact ((Blk.newAt _ _ _ (by simp)).alloc _).alloc _
      have hB2 : Blk W (w.heap.size + 1) 37 #[.bool (!s), .slice A' n' c'] := by rw [hW]; exact (Blk.newAt _ _ _ (by simp)).alloc _
      have hB3 : Blk W (w.heap.size + 1 + 1) 37 #[.bool false, .slice none 0 0] := by rw [hW]; exact Blk.newAt _ _ _ (by simp)
      clear hW
      have HK : Hid (∀ w', Ext W w' → Ext w w' ∧ w'.cell? ⟨w.heap.size, 0, none⟩ = some (.bool s) ∧ w'.cell? ⟨w.heap.size, 1, none⟩ = some (.slice A n c) ∧ w'.cell? ⟨w.heap.size + 1, 0, none⟩ = some (.bool (!s)) ∧ w'.cell? ⟨w.heap.size + 1, 1, none⟩ = some (.slice A' n' c')) := fun w' h => ⟨hE.trans h, (hB1.ext h).cell 0, (hB1.ext h).cell 1, (hB2.ext h).cell 0, (hB2.ext h).cell 1⟩
      have HK2 : Hid (∀ w' w'', w'.grownBy w'' (some (w.heap.size + 1 + 1)) → Ext W w' → Ext w w'' ∧ w''.cell? ⟨w.heap.size, 0, none⟩ = some (.bool s) ∧ w''.cell? ⟨w.heap.size, 1, none⟩ = some (.slice A n c) ∧ w''.cell? ⟨w.heap.size + 1, 0, none⟩ = some (.bool (!s)) ∧ w''.cell? ⟨w.heap.size + 1, 1, none⟩ = some (.slice A' n' c')) := fun w' w'' hg h => ⟨(hE.trans h).grown hg (by intro k hk; injection hk with hk; omega), (hg.cell_far ⟨w.heap.size, 0, none⟩ (hB1.ext h).lt (by first | (simp; done) | (simp; omega))).trans ((hB1.ext h).cell 0), (hg.cell_far ⟨w.heap.size, 1, none⟩ (hB1.ext h).lt (by first | (simp; done) | (simp; omega))).trans ((hB1.ext h).cell 1), (hg.cell_far ⟨w.heap.size + 1, 0, none⟩ (hB2.ext h).lt (by first | (simp; done) | (simp; omega))).trans ((hB2.ext h).cell 0), (hg.cell_far ⟨w.heap.size + 1, 1, none⟩ (hB2.ext h).lt (by first | (simp; done) | (simp; omega))).trans ((hB2.ext h).cell 1)⟩
      refine (size_nat _ _ _ _ _ (by omega) (by omega) (H1.out.ext (by (repeat (first | with_reducible assumption | with_reducible exact Ext.refl _ | with_reducible refine Ext.drew ?_ | with_reducible refine Ext.drewN ?_ _ | with_reducible refine Ext.alloc ?_ _ | with_reducible refine Ext.set2 ?_ (by omega) _ _ | with_reducible refine Ext.setCell ?_ (by first | omega | (simp; done) | (simp; omega)) _ | with_reducible refine Ext.trans ?_ (by with_reducible assumption))))) (H2.out.ext (by (repeat (first | with_reducible assumption | with_reducible exact Ext.refl _ | with_reducible refine Ext.drew ?_ | with_reducible refine Ext.drewN ?_ _ | with_reducible refine Ext.alloc ?_ _ | with_reducible refine Ext.set2 ?_ (by omega) _ _ | with_reducible refine Ext.setCell ?_ (by first | omega | (simp; done) | (simp; omega)) _ | with_reducible refine Ext.trans ?_ (by with_reducible assumption)))))).mono ?_
      rintro e w2 ⟨rfl, nd, rfl⟩
      go_wp2_with fail
      go_region_held3 (fun w' => Ext w w' ∧ w'.cell? ⟨w.heap.size, 0, none⟩ = some (.bool s) ∧ w'.cell? ⟨w.heap.size, 1, none⟩ = some (.slice A n c) ∧ w'.cell? ⟨w.heap.size + 1, 0, none⟩ = some (.bool (!s)) ∧ w'.cell? ⟨w.heap.size + 1, 1, none⟩ = some (.slice A' n' c'))
        (first | (refine HK.out _ ?_; (repeat (first | with_reducible assumption | with_reducible exact Ext.refl _ | with_reducible refine Ext.drew ?_ | with_reducible refine Ext.drewN ?_ _ | with_reducible refine Ext.alloc ?_ _ | with_reducible refine Ext.set2 ?_ (by omega) _ _ | with_reducible refine Ext.setCell ?_ (by first | omega | (simp; done) | (simp; omega)) _ | with_reducible refine Ext.trans ?_ (by with_reducible assumption))); done) | exact HK2.out _ _ (by (repeat (first | apply grow_set | exact World.grownBy.refl _ _))) (by (repeat (first | with_reducible assumption | with_reducible exact Ext.refl _ | with_reducible refine Ext.drew ?_ | with_reducible refine Ext.drewN ?_ _ | with_reducible refine Ext.alloc ?_ _ | with_reducible refine Ext.set2 ?_ (by omega) _ _ | with_reducible refine Ext.setCell ?_ (by first | omega | (simp; done) | (simp; omega)) _ | with_reducible refine Ext.trans ?_ (by with_reducible assumption)))))
        (first | (go_at_call 57; (with_reducible refine (minus_nat _ _ _ _ _ hx hle (H1.out.ext (by (repeat (first | with_reducible assumption | with_reducible exact Ext.refl _ | with_reducible refine Ext.drew ?_ | with_reducible refine Ext.drewN ?_ _ | with_reducible refine Ext.alloc ?_ _ | with_reducible refine Ext.set2 ?_ (by omega) _ _ | with_reducible refine Ext.setCell ?_ (by first | omega | (simp; done) | (simp; omega)) _ | with_reducible refine Ext.trans ?_ (by with_reducible assumption))))) (H2.out.ext (by (repeat (first | with_reducible assumption | with_reducible exact Ext.refl _ | with_reducible refine Ext.drew ?_ | with_reducible refine Ext.drewN ?_ _ | with_reducible refine Ext.alloc ?_ _ | with_reducible refine Ext.set2 ?_ (by omega) _ _ | with_reducible refine Ext.setCell ?_ (by first | omega | (simp; done) | (simp; omega)) _ | with_reducible refine Ext.trans ?_ (by with_reducible assumption)))))).mono ?_); rintro e w2 ⟨ws, A2, n2, c2, rfl, hm, hw, hv, hl, he1⟩; have HV := Lib.hid hv; clear hv) | (go_at_call 40; (with_reducible refine (made_any _ _ ws _ hw (by omega) (hm.ext (by (repeat (first | with_reducible assumption | with_reducible exact Ext.refl _ | with_reducible refine Ext.drew ?_ | with_reducible refine Ext.drewN ?_ _ | with_reducible refine Ext.alloc ?_ _ | with_reducible refine Ext.set2 ?_ (by omega) _ _ | with_reducible refine Ext.setCell ?_ (by first | omega | (simp; done) | (simp; omega)) _ | with_reducible refine Ext.trans ?_ (by with_reducible assumption)))))).mono ?_); rintro e w3 ⟨s3, A3, n3, c3, rfl, hm3, he3⟩; have hq3 := (hB3.ext (show Ext W w3 by (repeat (first | with_reducible assumption | with_reducible exact Ext.refl _ | with_reducible refine Ext.drew ?_ | with_reducible refine Ext.drewN ?_ _ | with_reducible refine Ext.alloc ?_ _ | with_reducible refine Ext.set2 ?_ (by omega) _ _ | with_reducible refine Ext.setCell ?_ (by first | omega | (simp; done) | (simp; omega)) _ | with_reducible refine Ext.trans ?_ (by with_reducible assumption))))).two))
      go_wp2
      refine bodyPost_ret (v := .agg #[.bool s3, .slice A3 n3 c3]) (by simp [results, Tryz.results20, go_sem, hq3]) rfl ?_
      have hEE : Ext W w3 := by (repeat (first | with_reducible assumption | with_reducible exact Ext.refl _ | with_reducible refine Ext.drew ?_ | with_reducible refine Ext.drewN ?_ _ | with_reducible refine Ext.alloc ?_ _ | with_reducible refine Ext.set2 ?_ (by omega) _ _ | with_reducible refine Ext.setCell ?_ (by first | omega | (simp; done) | (simp; omega)) _ | with_reducible refine Ext.trans ?_ (by with_reducible assumption)))
      rw [HV.out, HF.out] at hm3
      exact RInt.close hE hEE hB3 (by omega) hm3

set_option maxRecDepth 100000 in
set_option maxHeartbeats 1000000 in
theorem iSub1_any (b1 v1 b2 v2 : Value) (x y : Int) (w : World) (hx : (wordsOf x.natAbs).length ≤ 1000000) (hy : (wordsOf y.natAbs).length ≤ 1000000) (h1 : IsInt w b1 v1 x) (h2 : IsInt w b2 v2 y) :
    Calls Tryz.prog 200 #[.agg #[b1, v1], .agg #[b2, v2]] w (RInt w (x - y)) := by
  obtain ⟨s, A, n, c, rfl, rfl, -, -, -⟩ := h1.form
  obtain ⟨s', A', n', c', rfl, rfl, -, -, -⟩ := h2.form
  have H1 := Lib.hid h1
  have H2 := Lib.hid h2
  have hyn : (wordsOf (-y).natAbs).length ≤ 1000000 := by rw [Int.natAbs_neg]; exact hy
  clear h1 h2
  go_enter Tryz.func200, Tryz.ntmps200
  go_wp2_with fail
  obtain ⟨W, hW⟩ : ∃ W : World, W = ((w.alloc (.cells #[.bool s, .slice A n c] 37)).alloc (.cells #[.bool s', .slice A' n' c'] 37)).alloc (.cells #[.bool false, .slice none 0 0] 37) := ⟨_, rfl⟩
  rw [← hW]
  have hE : Ext w W := by rw [hW]; exact (((Ext.refl w).alloc _).alloc _).alloc _
  have hB1 : Blk W (w.heap.size) 37 #[.bool s, .slice A n c] := by rw [hW]; exact ((Blk.newAt _ _ _ (by simp)).alloc _).alloc _
  have hB2 : Blk W (w.heap.size + 1) 37 #[.bool s', .slice A' n' c'] := by rw [hW]; exact (Blk.newAt _ _ _ (by simp)).alloc _
  have hB3 : Blk W (w.heap.size + 1 + 1) 37 #[.bool false, .slice none 0 0] := by rw [hW]; exact Blk.newAt _ _ _ (by simp)
  clear hW
  have HK : Hid (∀ w', Ext W w' → Ext w w' ∧ w'.cell? ⟨w.heap.size, 0, none⟩ = some (.bool s) ∧ w'.cell? ⟨w.heap.size, 1, none⟩ = some (.slice A n c) ∧ w'.cell? ⟨w.heap.size + 1, 0, none⟩ = some (.bool s') ∧ w'.cell? ⟨w.heap.size + 1, 1, none⟩ = some (.slice A' n' c')) := fun w' h => ⟨hE.trans h, (hB1.ext h).cell 0, (hB1.ext h).cell 1, (hB2.ext h).cell 0, (hB2.ext h).cell 1⟩
  have HK2 : Hid (∀ w' w'', w'.grownBy w'' (some (w.heap.size + 1 + 1)) → Ext W w' → Ext w w'' ∧ w''.cell? ⟨w.heap.size, 0, none⟩ = some (.bool s) ∧ w''.cell? ⟨w.heap.size, 1, none⟩ = some (.slice A n c) ∧ w''.cell? ⟨w.heap.size + 1, 0, none⟩ = some (.bool s') ∧ w''.cell? ⟨w.heap.size + 1, 1, none⟩ = some (.slice A' n' c')) := fun w' w'' hg h => ⟨(hE.trans h).grown hg (by intro k hk; injection hk with hk; omega), (hg.cell_far ⟨w.heap.size, 0, none⟩ (hB1.ext h).lt (by first | (simp; done) | (simp; omega))).trans ((hB1.ext h).cell 0), (hg.cell_far ⟨w.heap.size, 1, none⟩ (hB1.ext h).lt (by first | (simp; done) | (simp; omega))).trans ((hB1.ext h).cell 1), (hg.cell_far ⟨w.heap.size + 1, 0, none⟩ (hB2.ext h).lt (by first | (simp; done) | (simp; omega))).trans ((hB2.ext h).cell 0), (hg.cell_far ⟨w.heap.size + 1, 1, none⟩ (hB2.ext h).lt (by first | (simp; done) | (simp; omega))).trans ((hB2.ext h).cell 1)⟩
  go_region_held3 (fun w' => Ext w w' ∧ w'.cell? ⟨w.heap.size, 0, none⟩ = some (.bool s) ∧ w'.cell? ⟨w.heap.size, 1, none⟩ = some (.slice A n c) ∧ w'.cell? ⟨w.heap.size + 1, 0, none⟩ = some (.bool s') ∧ w'.cell? ⟨w.heap.size + 1, 1, none⟩ = some (.slice A' n' c'))
    (first | (refine HK.out _ ?_; (repeat (first | with_reducible assumption | with_reducible exact Ext.refl _ | with_reducible refine Ext.drew ?_ | with_reducible refine Ext.drewN ?_ _ | with_reducible refine Ext.alloc ?_ _ | with_reducible refine Ext.set2 ?_ (by omega) _ _ | with_reducible refine Ext.setCell ?_ (by first | omega | (simp; done) | (simp; omega)) _ | with_reducible refine Ext.trans ?_ (by with_reducible assumption))); done) | exact HK2.out _ _ (by (repeat (first | apply grow_set | exact World.grownBy.refl _ _))) (by (repeat (first | with_reducible assumption | with_reducible exact Ext.refl _ | with_reducible refine Ext.drew ?_ | with_reducible refine Ext.drewN ?_ _ | with_reducible refine Ext.alloc ?_ _ | with_reducible refine Ext.set2 ?_ (by omega) _ _ | with_reducible refine Ext.setCell ?_ (by first | omega | (simp; done) | (simp; omega)) _ | with_reducible refine Ext.trans ?_ (by with_reducible assumption)))))
    (first | (go_at_call 100; (with_reducible refine (iNeg1_any _ _ _ _ hy (H2.out.ext (by (repeat (first | with_reducible assumption | with_reducible exact Ext.refl _ | with_reducible refine Ext.drew ?_ | with_reducible refine Ext.drewN ?_ _ | with_reducible refine Ext.alloc ?_ _ | with_reducible refine Ext.set2 ?_ (by omega) _ _ | with_reducible refine Ext.setCell ?_ (by first | omega | (simp; done) | (simp; omega)) _ | with_reducible refine Ext.trans ?_ (by with_reducible assumption)))))).mono ?_); rintro e w2 ⟨s2, A2, n2, c2, rfl, hm, he1⟩) | (go_at_call 20; (with_reducible refine (iAdd1_any _ _ _ _ _ _ _ hx hyn (H1.out.ext (by (repeat (first | with_reducible assumption | with_reducible exact Ext.refl _ | with_reducible refine Ext.drew ?_ | with_reducible refine Ext.drewN ?_ _ | with_reducible refine Ext.alloc ?_ _ | with_reducible refine Ext.set2 ?_ (by omega) _ _ | with_reducible refine Ext.setCell ?_ (by first | omega | (simp; done) | (simp; omega)) _ | with_reducible refine Ext.trans ?_ (by with_reducible assumption))))) hm).mono ?_); rintro e w3 ⟨s3, A3, n3, c3, rfl, hm3, he3⟩; have hq3 := (hB3.ext (show Ext W w3 by (repeat (first | with_reducible assumption | with_reducible exact Ext.refl _ | with_reducible refine Ext.drew ?_ | with_reducible refine Ext.drewN ?_ _ | with_reducible refine Ext.alloc ?_ _ | with_reducible refine Ext.set2 ?_ (by omega) _ _ | with_reducible refine Ext.setCell ?_ (by first | omega | (simp; done) | (simp; omega)) _ | with_reducible refine Ext.trans ?_ (by with_reducible assumption))))).two))
  go_wp2
  refine bodyPost_ret (v := .agg #[.bool s3, .slice A3 n3 c3]) (by simp [results, Tryz.results200, go_sem, hq3]) rfl ?_
  have hEE : Ext W w3 := by (repeat (first | with_reducible assumption | with_reducible exact Ext.refl _ | with_reducible refine Ext.drew ?_ | with_reducible refine Ext.drewN ?_ _ | with_reducible refine Ext.alloc ?_ _ | with_reducible refine Ext.set2 ?_ (by omega) _ _ | with_reducible refine Ext.setCell ?_ (by first | omega | (simp; done) | (simp; omega)) _ | with_reducible refine Ext.trans ?_ (by with_reducible assumption)))
  rw [Int.sub_eq_add_neg]
  exact RInt.close hE hEE hB3 (by omega) hm3

end Go.Proofs.YtekipapkcgoieaaGreatDoor
