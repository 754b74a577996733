/-
  The reference's integers: quotients of 64 bits.
-/
import Derived.Test.YtekipapkcgoieaaGreatDoorJ05
import Derived.Test.YtekipapkcgoieaaGreatDoorJ03
set_option linter.unusedVariables false
set_option linter.unusedSimpArgs false

/- The reference's integers: quotients of 64 bits. -/
namespace Go.Proofs.YtekipapkcgoieaaGreatDoor
open Go.RowKit
attribute [local go_sem ↓] Go.wp_at_zero Go.wp_at_succ

theorem two_nv (q : Nat) : nv [q % 4294967296, q / 4294967296] = q := by simp [nv]; omega
theorem two_w32 {q : Nat} (h : q ≤ 18446744073709551615) : W32 [q % 4294967296, q / 4294967296] := W32.cons (by omega) (W32.cons (by omega) W32.nil)

theorem divide_nat (v u : Value) (a b : Nat) (w : World) (ha : a ≤ 18446744073709551615) (hb : b ≤ 18446744073709551615) (hb0 : 0 < b) (h1 : IsNat w v a) (h2 : IsNat w u b) :
    Calls Tryz.prog 199 #[v, u] w (RDv w (a / b) (a % b)) := by
  have := divide_any v u _ _ w (wordsOf_w32 a) (wordsOf_w32 b) (wordsOf_len2 (by omega)) (wordsOf_len2 (by omega)) (by rwa [nv_wordsOf]) h1 h2
  rwa [nv_wordsOf, nv_wordsOf] at this

def D2 : Array Value := #[.slice none 0 0, .slice none 0 0]

set_option maxRecDepth 100000 in
set_option maxHeartbeats 8000000 in
theorem iDivMod1_neg (b1 v1 b2 v2 : Value) (x y : Int) (w : World) (hx : x.natAbs ≤ 18446744073709551615) (hy : y.natAbs ≤ 18446744073709551615) (hy0 : y ≠ 0) (hyC : y < 0) (h1 : IsInt w b1 v1 x) (h2 : IsInt w b2 v2 y) :
    Calls Tryz.prog 158 #[.agg #[b1, v1], .agg #[b2, v2]] w (RDM w (x / y) (x % y)) := by
  obtain ⟨s, A, n, c, rfl, rfl, es, en, hN⟩ := h1.form
  obtain ⟨s', A', n', c', rfl, rfl, es', en', hN'⟩ := h2.form
  have H1 := Lib.hid h1
  have H2 := Lib.hid h2
  have HN1 := Lib.hid hN
  have HN2 := Lib.hid hN'
  have ES := Lib.hid es
  have ES' := Lib.hid es'
  have hn0 : ((n' : Int) == 0) = false := by rw [beq_eq_false_iff_ne]; have := @wordsOf_len0 y.natAbs; omega
  have hs0 : s' = true := by rw [es']; simp; omega
  have hsg := Lib.hid (show y.sign = -1 from Int.sign_eq_neg_one_of_neg hyC)
  subst hs0
  clear h1 h2 hN hN' es es' en en'
  go_enter Tryz.func158, Tryz.ntmps158
  go_wp2_with fail
  obtain ⟨W, hW⟩ : ∃ W : World, W = (((w.alloc (.cells #[.bool s, .slice A n c] 37)).alloc (.cells #[.bool true, .slice A' n' c'] 37)).alloc (.cells #[.bool false, .slice none 0 0] 37)).alloc (.cells #[.bool false, .slice none 0 0] 37) := ⟨_, rfl⟩
  rw [← hW]
  have hE : Ext w W := by rw [hW]; exact ((((Ext.refl w).alloc _).alloc _).alloc _).alloc _
  have hB1 : Blk W (w.heap.size) 37 #[.bool s, .slice A n c] := by rw [hW]; exact (((Blk.newAt _ _ _ (by simp)).alloc _).alloc _).alloc _
  have hB2 : Blk W (w.heap.size + 1) 37 #[.bool true, .slice A' n' c'] := by rw [hW]; exact ((Blk.newAt _ _ _ (by simp)).alloc _).alloc _
  have hB3 : Blk W (w.heap.size + 1 + 1) 37 #[.bool false, .slice none 0 0] := by rw [hW]; exact (Blk.newAt _ _ _ (by simp)).alloc _
  have hB4 : Blk W (w.heap.size + 1 + 1 + 1) 37 #[.bool false, .slice none 0 0] := by rw [hW]; exact Blk.newAt _ _ _ (by simp)
  clear hW
  have HK : Hid (∀ w', Ext W w' → Ext w w' ∧ w'.cell? ⟨w.heap.size, 0, none⟩ = some (.bool s) ∧ w'.cell? ⟨w.heap.size, 1, none⟩ = some (.slice A n c) ∧ w'.cell? ⟨w.heap.size + 1, 0, none⟩ = some (.bool true) ∧ w'.cell? ⟨w.heap.size + 1, 1, none⟩ = some (.slice A' n' c')) := fun w' h => ⟨hE.trans h, (hB1.ext h).cell 0, (hB1.ext h).cell 1, (hB2.ext h).cell 0, (hB2.ext h).cell 1⟩
  have HK2 : Hid (∀ w' w'', w'.grownBy w'' (some (w.heap.size + 1 + 1 + 1)) → Ext W w' → Ext w w'' ∧ w''.cell? ⟨w.heap.size, 0, none⟩ = some (.bool s) ∧ w''.cell? ⟨w.heap.size, 1, none⟩ = some (.slice A n c) ∧ w''.cell? ⟨w.heap.size + 1, 0, none⟩ = some (.bool true) ∧ w''.cell? ⟨w.heap.size + 1, 1, none⟩ = some (.slice A' n' c')) := fun w' w'' hg h => ⟨(hE.trans h).grown hg (by intro k hk; injection hk with hk; omega), (hg.cell_far ⟨w.heap.size, 0, none⟩ (hB1.ext h).lt (by first | (simp; done) | (simp; omega))).trans ((hB1.ext h).cell 0), (hg.cell_far ⟨w.heap.size, 1, none⟩ (hB1.ext h).lt (by first | (simp; done) | (simp; omega))).trans ((hB1.ext h).cell 1), (hg.cell_far ⟨w.heap.size + 1, 0, none⟩ (hB2.ext h).lt (by first | (simp; done) | (simp; omega))).trans ((hB2.ext h).cell 0), (hg.cell_far ⟨w.heap.size + 1, 1, none⟩ (hB2.ext h).lt (by first | (simp; done) | (simp; omega))).trans ((hB2.ext h).cell 1)⟩
  refine (divide_nat _ _ _ _ _ hx hy (by omega) (HN1.out.ext hE) (HN2.out.ext hE)).mono ?_
  rintro e w1 ⟨A1, B1, rfl, hq, hr, he1⟩
  have p1 := HK.out w1 he1
  have l1 := (hB1.ext he1).lt
  have l2 := (hB2.ext he1).lt
  have hql : x.natAbs / y.natAbs ≤ 18446744073709551615 := Nat.le_trans (Nat.div_le_self _ _) hx
  have hrl : x.natAbs % y.natAbs ≤ 18446744073709551615 := Nat.le_trans (Nat.mod_le _ _) hx
  go_wp2_with fail
  clear p1 l1 l2
  refine (made_any _ _ _ _ (two_w32 hql) (by simp) (hq.ext (by (repeat (first | with_reducible assumption | with_reducible exact Ext.refl _ | with_reducible refine Ext.drew ?_ | with_reducible refine Ext.drewN ?_ _ | with_reducible refine Ext.alloc ?_ _ | with_reducible refine Ext.set2 ?_ (by omega) _ _ | with_reducible refine Ext.setCell ?_ (by first | omega | (simp; done) | (simp; omega)) _ | with_reducible refine Ext.trans ?_ (by with_reducible assumption)))))).mono ?_
  rw [two_nv]
  rintro e w3 ⟨s2, A2, n2, c2, rfl, hm2, he3⟩
  have hE3 : Ext W w3 := by (repeat (first | with_reducible assumption | with_reducible exact Ext.refl _ | with_reducible refine Ext.drew ?_ | with_reducible refine Ext.drewN ?_ _ | with_reducible refine Ext.alloc ?_ _ | with_reducible refine Ext.set2 ?_ (by omega) _ _ | with_reducible refine Ext.setCell ?_ (by first | omega | (simp; done) | (simp; omega)) _ | with_reducible refine Ext.trans ?_ (by with_reducible assumption)))
  have p3 := HK.out w3 hE3
  have l1 := (hB1.ext hE3).lt
  have l2 := (hB2.ext hE3).lt
  have l3 := ((Blk.newAt w1 270 #[.slice A1 2 2, .slice B1 2 2] rfl).ext he3).lt
  have bd := ((Blk.newAt w1 270 #[.slice A1 2 2, .slice B1 2 2] rfl).ext he3).two
  go_wp2_with fail
  clear p3 l1 l2 l3
  refine (made_any _ _ _ _ (two_w32 hrl) (by simp) (hr.ext ((((Ext.refl w1).alloc _).trans he3).alloc _))).mono ?_
  rw [two_nv]
  rintro e w4 ⟨s3, A3, n3, c3, rfl, hm3, he4⟩
  have f1 : Blk (w3.alloc (.cells #[.bool s2, .slice A2 n2 c2] 37)) w3.heap.size 37 #[.bool s2, .slice A2 n2 c2] := Blk.newAt _ _ _ rfl
  have f4 := f1.ext he4
  have hE4 : Ext W w4 := (hE3.alloc _).trans he4
  have hq2' : IsInt w4 (.bool s2) (.slice A2 n2 c2) (signed (s != true) (x.natAbs / y.natAbs)) := by
    rw [show (s != true) = !s from by cases s <;> rfl]; exact hm2.ext (((Ext.refl _).alloc _).trans he4)
  have hqbW : W.heap.size ≤ w3.heap.size := hE3.size'
  have hrbW : W.heap.size ≤ w4.heap.size := hE4.size'
  have hne' : w3.heap.size ≠ w4.heap.size := by have := f4.lt; omega
  have hlW : w.heap.size + 1 + 1 + 1 < W.heap.size := hB4.lt
  have hlq : (wordsOf (signed (s != true) (x.natAbs / y.natAbs)).natAbs).length ≤ 1000000 := by rw [signed_abs]; have := wordsOf_len2 (m := x.natAbs / y.natAbs) (by omega); omega
  have hlr : (wordsOf (signed s (x.natAbs % y.natAbs)).natAbs).length ≤ 1000000 := by rw [signed_abs]; have := wordsOf_len2 (m := x.natAbs % y.natAbs) (by omega); omega
  have hly : (wordsOf ((y.natAbs : Nat) : Int).natAbs).length ≤ 1000000 := by rw [Int.natAbs_natCast]; have := wordsOf_len2 (m := y.natAbs) (by omega); omega
  have hly1 : (wordsOf y.natAbs).length ≤ 1000000 := by have := wordsOf_len2 (m := y.natAbs) (by omega); omega
  have hb3 := (hB3.ext hE4).lt
  have hb4 := (hB4.ext hE4).lt
  have f6 := f4.lt
  cases s3
  · go_wp2_with fail
    obtain ⟨wc, hwc⟩ : ∃ wc : World, wc = w4.alloc (.cells #[.bool false, .slice A3 n3 c3] 37) := ⟨_, rfl⟩
    rw [← hwc]
    have hEW : Ext W wc := by rw [hwc]; exact hE4.alloc _
    have hBq : Blk wc w3.heap.size 37 #[.bool s2, .slice A2 n2 c2] := by rw [hwc]; exact f4.alloc _
    have hBr : Blk wc w4.heap.size 37 #[.bool false, .slice A3 n3 c3] := by rw [hwc]; exact Blk.newAt _ _ _ rfl
    have hq2 : IsInt wc (.bool s2) (.slice A2 n2 c2) (signed (s != true) (x.natAbs / y.natAbs)) := by rw [hwc]; exact hq2'.alloc _
    have hr2 : IsInt wc (.bool false) (.slice A3 n3 c3) (signed s (x.natAbs % y.natAbs)) := by rw [hwc]; exact hm3.alloc _
    clear hwc hq2' hm3 hm2 f4 f1 f6 hb3 hb4 bd hq hr
    generalize w3.heap.size = qb at *
    generalize w4.heap.size = rb at *
    have bq := hBq.two
    have br := hBr.two
    have b3 := (hB3.ext hEW).two
    have b4 := (hB4.ext hEW).two
    have lq := hBq.lt
    have lr := hBr.lt
    have l3 := (hB3.ext hEW).lt
    have l4 := (hB4.ext hEW).lt
    have d1 : ¬ qb = w.heap.size + 1 + 1 := by omega
    have d2 : ¬ qb = w.heap.size + 1 + 1 + 1 := by omega
    have d3 : ¬ rb = w.heap.size + 1 + 1 := by omega
    have d4 : ¬ rb = w.heap.size + 1 + 1 + 1 := by omega
    have d5 : ¬ w.heap.size + 1 + 1 = qb := by omega
    have d6 : ¬ w.heap.size + 1 + 1 + 1 = qb := by omega
    have d7 : ¬ w.heap.size + 1 + 1 = rb := by omega
    have d8 : ¬ w.heap.size + 1 + 1 + 1 = rb := by omega
    go_region_held3 (fun w' => w'.cell? ⟨qb, 0, none⟩ = some (.bool s2) ∧ w'.cell? ⟨qb, 1, none⟩ = some (.slice A2 n2 c2) ∧ w'.cell? ⟨rb, 0, none⟩ = some (.bool false) ∧ w'.cell? ⟨rb, 1, none⟩ = some (.slice A3 n3 c3)) (go_keep) (fail)
    go_wp2
    refine bodyPost_ret (v := .tuple #[.agg #[.bool s2, .slice A2 n2 c2], .agg #[.bool false, .slice A3 n3 c3], .int .i64 0]) (by simp [results, Tryz.results158, go_sem, b3, b4]) rfl ?_
    have hbz := hr2.1
    have hfin := divmod_pos x y hy0 (by simpa [ES.out] using hbz)
    rw [← ES.out, ← ES'.out] at hfin
    refine ⟨_, _, _, _, _, _, _, _, rfl, ?_, ?_, ?_⟩
    · rw [← hfin.1]; exact ((hq2.ext ((Ext.refl _).drew)).set2 (TypeAt.ext (hB3.ext hEW).type ((Ext.refl _).drew)) (by decide) _ _).set2 (((TypeAt.ext (hB4.ext hEW).type ((Ext.refl _).drew)).setCell _ _).setCell _ _) (by decide) _ _
    · rw [← hfin.2]; exact ((hr2.ext ((Ext.refl _).drew)).set2 (TypeAt.ext (hB3.ext hEW).type ((Ext.refl _).drew)) (by decide) _ _).set2 (((TypeAt.ext (hB4.ext hEW).type ((Ext.refl _).drew)).setCell _ _).setCell _ _) (by decide) _ _
    · exact (((hE.trans hEW).drew).set2 (by omega) _ _).set2 (by omega) _ _
  · go_upto_region 7 with fail
    obtain ⟨wc, hwc⟩ : ∃ wc : World, wc = w4.alloc (.cells #[.bool true, .slice A3 n3 c3] 37) := ⟨_, rfl⟩
    rw [← hwc]
    have hEW : Ext W wc := by rw [hwc]; exact hE4.alloc _
    have hBq : Blk wc w3.heap.size 37 #[.bool s2, .slice A2 n2 c2] := by rw [hwc]; exact f4.alloc _
    have hBr : Blk wc w4.heap.size 37 #[.bool true, .slice A3 n3 c3] := by rw [hwc]; exact Blk.newAt _ _ _ rfl
    have hq2 : IsInt wc (.bool s2) (.slice A2 n2 c2) (signed (s != true) (x.natAbs / y.natAbs)) := by rw [hwc]; exact hq2'.alloc _
    have hr2 : IsInt wc (.bool true) (.slice A3 n3 c3) (signed s (x.natAbs % y.natAbs)) := by rw [hwc]; exact hm3.alloc _
    clear hwc hq2' hm3 hm2 f4 f1 f6 hb3 hb4 bd hq hr
    generalize w3.heap.size = qb at *
    generalize w4.heap.size = rb at *
    have hbz := Lib.hid hr2.1
    have bq := hBq.two
    have br := hBr.two
    have lq := hBq.lt
    have lr := hBr.lt
    have p2 := HK.out wc hEW
    have d1 : ¬ qb = w.heap.size + 1 + 1 := by omega
    have d2 : ¬ qb = w.heap.size + 1 + 1 + 1 := by omega
    have d3 : ¬ rb = w.heap.size + 1 + 1 := by omega
    have d4 : ¬ rb = w.heap.size + 1 + 1 + 1 := by omega
    have d5 : ¬ w.heap.size + 1 + 1 = qb := by omega
    have d6 : ¬ w.heap.size + 1 + 1 + 1 = qb := by omega
    have d7 : ¬ w.heap.size + 1 + 1 = rb := by omega
    have d8 : ¬ w.heap.size + 1 + 1 + 1 = rb := by omega
    go_cut [] (fun wx => ∃ (s5 : Bool) (A5 : Option Addr) (n5 c5 : Nat), Blk wx rb 37 #[.bool s5, .slice A5 n5 c5] ∧ IsInt wx (.bool s5) (.slice A5 n5 c5) (signed s (x.natAbs % y.natAbs) + (y.natAbs : Int)) ∧
      Blk wx qb 37 #[.bool s2, .slice A2 n2 c2] ∧ IsInt wx (.bool s2) (.slice A2 n2 c2) (signed (s != true) (x.natAbs / y.natAbs)) ∧ Ext W wx)
    case first =>
      go_region_with (first | (go_at_call 156; (with_reducible refine (iAbs1_any _ _ _ _ hly1 (H2.out.ext (by (repeat (first | with_reducible assumption | with_reducible exact Ext.refl _ | with_reducible refine Ext.drew ?_ | with_reducible refine Ext.drewN ?_ _ | with_reducible refine Ext.alloc ?_ _ | with_reducible refine Ext.set2 ?_ (by omega) _ _ | with_reducible refine Ext.setCell ?_ (by first | omega | (simp; done) | (simp; omega)) _ | with_reducible refine Ext.trans ?_ (by with_reducible assumption)))))).mono ?_); rintro e w2 ⟨s4, A4, n4, c4, rfl, hm4, he4⟩; have bq4 := (hBq.ext (show Ext wc w2 by (repeat (first | with_reducible assumption | with_reducible exact Ext.refl _ | with_reducible refine Ext.drew ?_ | with_reducible refine Ext.drewN ?_ _ | with_reducible refine Ext.alloc ?_ _ | with_reducible refine Ext.set2 ?_ (by omega) _ _ | with_reducible refine Ext.setCell ?_ (by first | omega | (simp; done) | (simp; omega)) _ | with_reducible refine Ext.trans ?_ (by with_reducible assumption))))).two; have br4 := (hBr.ext (show Ext wc w2 by (repeat (first | with_reducible assumption | with_reducible exact Ext.refl _ | with_reducible refine Ext.drew ?_ | with_reducible refine Ext.drewN ?_ _ | with_reducible refine Ext.alloc ?_ _ | with_reducible refine Ext.set2 ?_ (by omega) _ _ | with_reducible refine Ext.setCell ?_ (by first | omega | (simp; done) | (simp; omega)) _ | with_reducible refine Ext.trans ?_ (by with_reducible assumption))))).two) | (go_at_call 20; (with_reducible refine (iAdd1_any _ _ _ _ _ _ _ hlr hly (hr2.ext (by (repeat (first | with_reducible assumption | with_reducible exact Ext.refl _ | with_reducible refine Ext.drew ?_ | with_reducible refine Ext.drewN ?_ _ | with_reducible refine Ext.alloc ?_ _ | with_reducible refine Ext.set2 ?_ (by omega) _ _ | with_reducible refine Ext.setCell ?_ (by first | omega | (simp; done) | (simp; omega)) _ | with_reducible refine Ext.trans ?_ (by with_reducible assumption))))) hm4).mono ?_); rintro e w3 ⟨s5, A5, n5, c5, rfl, hm5, he5⟩; have bq5 := (hBq.ext (show Ext wc w3 by (repeat (first | with_reducible assumption | with_reducible exact Ext.refl _ | with_reducible refine Ext.drew ?_ | with_reducible refine Ext.drewN ?_ _ | with_reducible refine Ext.alloc ?_ _ | with_reducible refine Ext.set2 ?_ (by omega) _ _ | with_reducible refine Ext.setCell ?_ (by first | omega | (simp; done) | (simp; omega)) _ | with_reducible refine Ext.trans ?_ (by with_reducible assumption))))).two; have br5 := (hBr.ext (show Ext wc w3 by (repeat (first | with_reducible assumption | with_reducible exact Ext.refl _ | with_reducible refine Ext.drew ?_ | with_reducible refine Ext.drewN ?_ _ | with_reducible refine Ext.alloc ?_ _ | with_reducible refine Ext.set2 ?_ (by omega) _ _ | with_reducible refine Ext.setCell ?_ (by first | omega | (simp; done) | (simp; omega)) _ | with_reducible refine Ext.trans ?_ (by with_reducible assumption))))).two))
      all_goals
        go_wp2_with fail
        go_meet
        have hx3 : Ext wc w3 := by (repeat (first | with_reducible assumption | with_reducible exact Ext.refl _ | with_reducible refine Ext.drew ?_ | with_reducible refine Ext.drewN ?_ _ | with_reducible refine Ext.alloc ?_ _ | with_reducible refine Ext.set2 ?_ (by omega) _ _ | with_reducible refine Ext.setCell ?_ (by first | omega | (simp; done) | (simp; omega)) _ | with_reducible refine Ext.trans ?_ (by with_reducible assumption)))
        exact ⟨s5, A5, n5, c5, (hBr.ext hx3).set2 _ _, hm5.set2 (hBr.ext hx3).type (by decide) _ _, (hBq.ext hx3).far2 hne' _ _, (hq2.ext hx3).set2 (hBr.ext hx3).type (by decide) _ _, (hEW.trans hx3).set2 hrbW _ _⟩
    case rest =>
      clear hBq hBr hq2 hr2 bq br p2 lq lr hEW
      obtain ⟨s5, A5, n5, c5, hBr, hr5, hBq, hq2, hEW5⟩ := hcut
      have p2 := HK.out wc hEW5
      have bq := hBq.two
      have hl1 : (wordsOf ((1 : Nat) : Int).natAbs).length ≤ 1000000 := by decide
      go_wp2_with fail
      go_upto_region 9 with fail
      go_cut [] (fun wx => ∃ (s8 : Bool) (A8 : Option Addr) (n8 c8 : Nat), Blk wx qb 37 #[.bool s8, .slice A8 n8 c8] ∧ IsInt wx (.bool s8) (.slice A8 n8 c8) (signed (s != true) (x.natAbs / y.natAbs) + 1) ∧
        Blk wx rb 37 #[.bool s5, .slice A5 n5 c5] ∧ IsInt wx (.bool s5) (.slice A5 n5 c5) (signed s (x.natAbs % y.natAbs) + (y.natAbs : Int)) ∧ Ext W wx)
      case first =>
        go_region_with (first | (go_at_call 12; (with_reducible refine (Of1_any 1 _ (by omega) (by omega)).mono ?_); rintro e w3 ⟨s6, A6, n6, c6, rfl, hm6, he6⟩; have bq6 := (hBq.ext (show Ext wc w3 by (repeat (first | with_reducible assumption | with_reducible exact Ext.refl _ | with_reducible refine Ext.drew ?_ | with_reducible refine Ext.drewN ?_ _ | with_reducible refine Ext.alloc ?_ _ | with_reducible refine Ext.set2 ?_ (by omega) _ _ | with_reducible refine Ext.setCell ?_ (by first | omega | (simp; done) | (simp; omega)) _ | with_reducible refine Ext.trans ?_ (by with_reducible assumption))))).two) | (go_at_call 20; (with_reducible refine (iAdd1_any _ _ _ _ _ _ _ hlq hl1 (hq2.ext (by (repeat (first | with_reducible assumption | with_reducible exact Ext.refl _ | with_reducible refine Ext.drew ?_ | with_reducible refine Ext.drewN ?_ _ | with_reducible refine Ext.alloc ?_ _ | with_reducible refine Ext.set2 ?_ (by omega) _ _ | with_reducible refine Ext.setCell ?_ (by first | omega | (simp; done) | (simp; omega)) _ | with_reducible refine Ext.trans ?_ (by with_reducible assumption))))) hm6).mono ?_); rintro e w5 ⟨s8, A8, n8, c8, rfl, hm8, he8⟩; have bq8 := (hBq.ext (show Ext wc w5 by (repeat (first | with_reducible assumption | with_reducible exact Ext.refl _ | with_reducible refine Ext.drew ?_ | with_reducible refine Ext.drewN ?_ _ | with_reducible refine Ext.alloc ?_ _ | with_reducible refine Ext.set2 ?_ (by omega) _ _ | with_reducible refine Ext.setCell ?_ (by first | omega | (simp; done) | (simp; omega)) _ | with_reducible refine Ext.trans ?_ (by with_reducible assumption))))).two))
        all_goals
          go_wp2_with fail
          go_meet
          have hx5 : Ext wc w5 := by (repeat (first | with_reducible assumption | with_reducible exact Ext.refl _ | with_reducible refine Ext.drew ?_ | with_reducible refine Ext.drewN ?_ _ | with_reducible refine Ext.alloc ?_ _ | with_reducible refine Ext.set2 ?_ (by omega) _ _ | with_reducible refine Ext.setCell ?_ (by first | omega | (simp; done) | (simp; omega)) _ | with_reducible refine Ext.trans ?_ (by with_reducible assumption)))
          exact ⟨s8, A8, n8, c8, (hBq.ext hx5).set2 _ _, hm8.set2 (hBq.ext hx5).type (by decide) _ _, (hBr.ext hx5).far2 (Ne.symm hne') _ _, (hr5.ext hx5).set2 (hBq.ext hx5).type (by decide) _ _, (hEW5.trans hx5).set2 hqbW _ _⟩
      case rest =>
        clear hBq hBr hr5 hq2 bq p2 hEW5
        obtain ⟨s8, A8, n8, c8, hBq, hq8, hBr, hr5, hEW8⟩ := hcut
        have bq := hBq.two
        have br := hBr.two
        have b3 := (hB3.ext hEW8).two
        have b4 := (hB4.ext hEW8).two
        have lq := hBq.lt
        have lr := hBr.lt
        have l3 := (hB3.ext hEW8).lt
        have l4 := (hB4.ext hEW8).lt
        go_wp2_with fail
        go_region_held3 (fun w' => w'.cell? ⟨qb, 0, none⟩ = some (.bool s8) ∧ w'.cell? ⟨qb, 1, none⟩ = some (.slice A8 n8 c8) ∧ w'.cell? ⟨rb, 0, none⟩ = some (.bool s5) ∧ w'.cell? ⟨rb, 1, none⟩ = some (.slice A5 n5 c5)) (go_keep) (fail)
        go_wp2
        refine bodyPost_ret (v := .tuple #[.agg #[.bool s8, .slice A8 n8 c8], .agg #[.bool s5, .slice A5 n5 c5], .int .i64 0]) (by simp [results, Tryz.results158, go_sem, b3, b4]) rfl ?_
        have hfin := divmod_neg x y hy0 (by simpa [ES.out] using hbz.out)
        rw [← ES.out, ← ES'.out, hsg.out] at hfin
        refine ⟨_, _, _, _, _, _, _, _, rfl, ?_, ?_, ?_⟩
        · rw [← hfin.1]; exact ((hq8.ext ((Ext.refl _).drew)).set2 (TypeAt.ext (hB3.ext hEW8).type ((Ext.refl _).drew)) (by decide) _ _).set2 (((TypeAt.ext (hB4.ext hEW8).type ((Ext.refl _).drew)).setCell _ _).setCell _ _) (by decide) _ _
        · rw [← hfin.2]; exact ((hr5.ext ((Ext.refl _).drew)).set2 (TypeAt.ext (hB3.ext hEW8).type ((Ext.refl _).drew)) (by decide) _ _).set2 (((TypeAt.ext (hB4.ext hEW8).type ((Ext.refl _).drew)).setCell _ _).setCell _ _) (by decide) _ _
        · exact (((hE.trans hEW8).drew).set2 (by omega) _ _).set2 (by omega) _ _
set_option maxRecDepth 100000 in
set_option maxHeartbeats 8000000 in
theorem iDivMod1_pos (b1 v1 b2 v2 : Value) (x y : Int) (w : World) (hx : x.natAbs ≤ 18446744073709551615) (hy : y.natAbs ≤ 18446744073709551615) (hy0 : y ≠ 0) (hyC : ¬ y < 0) (h1 : IsInt w b1 v1 x) (h2 : IsInt w b2 v2 y) :
    Calls Tryz.prog 158 #[.agg #[b1, v1], .agg #[b2, v2]] w (RDM w (x / y) (x % y)) := by
  obtain ⟨s, A, n, c, rfl, rfl, es, en, hN⟩ := h1.form
  obtain ⟨s', A', n', c', rfl, rfl, es', en', hN'⟩ := h2.form
  have H1 := Lib.hid h1
  have H2 := Lib.hid h2
  have HN1 := Lib.hid hN
  have HN2 := Lib.hid hN'
  have ES := Lib.hid es
  have ES' := Lib.hid es'
  have hn0 : ((n' : Int) == 0) = false := by rw [beq_eq_false_iff_ne]; have := @wordsOf_len0 y.natAbs; omega
  have hs0 : s' = false := by rw [es']; simp; omega
  have hsg := Lib.hid (show y.sign = 1 from Int.sign_eq_one_of_pos (by omega))
  subst hs0
  clear h1 h2 hN hN' es es' en en'
  go_enter Tryz.func158, Tryz.ntmps158
  go_wp2_with fail
  obtain ⟨W, hW⟩ : ∃ W : World, W = (((w.alloc (.cells #[.bool s, .slice A n c] 37)).alloc (.cells #[.bool false, .slice A' n' c'] 37)).alloc (.cells #[.bool false, .slice none 0 0] 37)).alloc (.cells #[.bool false, .slice none 0 0] 37) := ⟨_, rfl⟩
  rw [← hW]
  have hE : Ext w W := by rw [hW]; exact ((((Ext.refl w).alloc _).alloc _).alloc _).alloc _
  have hB1 : Blk W (w.heap.size) 37 #[.bool s, .slice A n c] := by rw [hW]; exact (((Blk.newAt _ _ _ (by simp)).alloc _).alloc _).alloc _
  have hB2 : Blk W (w.heap.size + 1) 37 #[.bool false, .slice A' n' c'] := by rw [hW]; exact ((Blk.newAt _ _ _ (by simp)).alloc _).alloc _
  have hB3 : Blk W (w.heap.size + 1 + 1) 37 #[.bool false, .slice none 0 0] := by rw [hW]; exact (Blk.newAt _ _ _ (by simp)).alloc _
  have hB4 : Blk W (w.heap.size + 1 + 1 + 1) 37 #[.bool false, .slice none 0 0] := by rw [hW]; exact Blk.newAt _ _ _ (by simp)
  clear hW
  have HK : Hid (∀ w', Ext W w' → Ext w w' ∧ w'.cell? ⟨w.heap.size, 0, none⟩ = some (.bool s) ∧ w'.cell? ⟨w.heap.size, 1, none⟩ = some (.slice A n c) ∧ w'.cell? ⟨w.heap.size + 1, 0, none⟩ = some (.bool false) ∧ w'.cell? ⟨w.heap.size + 1, 1, none⟩ = some (.slice A' n' c')) := fun w' h => ⟨hE.trans h, (hB1.ext h).cell 0, (hB1.ext h).cell 1, (hB2.ext h).cell 0, (hB2.ext h).cell 1⟩
  have HK2 : Hid (∀ w' w'', w'.grownBy w'' (some (w.heap.size + 1 + 1 + 1)) → Ext W w' → Ext w w'' ∧ w''.cell? ⟨w.heap.size, 0, none⟩ = some (.bool s) ∧ w''.cell? ⟨w.heap.size, 1, none⟩ = some (.slice A n c) ∧ w''.cell? ⟨w.heap.size + 1, 0, none⟩ = some (.bool false) ∧ w''.cell? ⟨w.heap.size + 1, 1, none⟩ = some (.slice A' n' c')) := fun w' w'' hg h => ⟨(hE.trans h).grown hg (by intro k hk; injection hk with hk; omega), (hg.cell_far ⟨w.heap.size, 0, none⟩ (hB1.ext h).lt (by first | (simp; done) | (simp; omega))).trans ((hB1.ext h).cell 0), (hg.cell_far ⟨w.heap.size, 1, none⟩ (hB1.ext h).lt (by first | (simp; done) | (simp; omega))).trans ((hB1.ext h).cell 1), (hg.cell_far ⟨w.heap.size + 1, 0, none⟩ (hB2.ext h).lt (by first | (simp; done) | (simp; omega))).trans ((hB2.ext h).cell 0), (hg.cell_far ⟨w.heap.size + 1, 1, none⟩ (hB2.ext h).lt (by first | (simp; done) | (simp; omega))).trans ((hB2.ext h).cell 1)⟩
  refine (divide_nat _ _ _ _ _ hx hy (by omega) (HN1.out.ext hE) (HN2.out.ext hE)).mono ?_
  rintro e w1 ⟨A1, B1, rfl, hq, hr, he1⟩
  have p1 := HK.out w1 he1
  have l1 := (hB1.ext he1).lt
  have l2 := (hB2.ext he1).lt
  have hql : x.natAbs / y.natAbs ≤ 18446744073709551615 := Nat.le_trans (Nat.div_le_self _ _) hx
  have hrl : x.natAbs % y.natAbs ≤ 18446744073709551615 := Nat.le_trans (Nat.mod_le _ _) hx
  go_wp2_with fail
  clear p1 l1 l2
  refine (made_any _ _ _ _ (two_w32 hql) (by simp) (hq.ext (by (repeat (first | with_reducible assumption | with_reducible exact Ext.refl _ | with_reducible refine Ext.drew ?_ | with_reducible refine Ext.drewN ?_ _ | with_reducible refine Ext.alloc ?_ _ | with_reducible refine Ext.set2 ?_ (by omega) _ _ | with_reducible refine Ext.setCell ?_ (by first | omega | (simp; done) | (simp; omega)) _ | with_reducible refine Ext.trans ?_ (by with_reducible assumption)))))).mono ?_
  rw [two_nv]
  rintro e w3 ⟨s2, A2, n2, c2, rfl, hm2, he3⟩
  have hE3 : Ext W w3 := by (repeat (first | with_reducible assumption | with_reducible exact Ext.refl _ | with_reducible refine Ext.drew ?_ | with_reducible refine Ext.drewN ?_ _ | with_reducible refine Ext.alloc ?_ _ | with_reducible refine Ext.set2 ?_ (by omega) _ _ | with_reducible refine Ext.setCell ?_ (by first | omega | (simp; done) | (simp; omega)) _ | with_reducible refine Ext.trans ?_ (by with_reducible assumption)))
  have p3 := HK.out w3 hE3
  have l1 := (hB1.ext hE3).lt
  have l2 := (hB2.ext hE3).lt
  have l3 := ((Blk.newAt w1 270 #[.slice A1 2 2, .slice B1 2 2] rfl).ext he3).lt
  have bd := ((Blk.newAt w1 270 #[.slice A1 2 2, .slice B1 2 2] rfl).ext he3).two
  go_wp2_with fail
  clear p3 l1 l2 l3
  refine (made_any _ _ _ _ (two_w32 hrl) (by simp) (hr.ext ((((Ext.refl w1).alloc _).trans he3).alloc _))).mono ?_
  rw [two_nv]
  rintro e w4 ⟨s3, A3, n3, c3, rfl, hm3, he4⟩
  have f1 : Blk (w3.alloc (.cells #[.bool s2, .slice A2 n2 c2] 37)) w3.heap.size 37 #[.bool s2, .slice A2 n2 c2] := Blk.newAt _ _ _ rfl
  have f4 := f1.ext he4
  have hE4 : Ext W w4 := (hE3.alloc _).trans he4
  have hq2' : IsInt w4 (.bool s2) (.slice A2 n2 c2) (signed (s != false) (x.natAbs / y.natAbs)) := by
    rw [show (s != false) = s from by cases s <;> rfl]; exact hm2.ext (((Ext.refl _).alloc _).trans he4)
  have hqbW : W.heap.size ≤ w3.heap.size := hE3.size'
  have hrbW : W.heap.size ≤ w4.heap.size := hE4.size'
  have hne' : w3.heap.size ≠ w4.heap.size := by have := f4.lt; omega
  have hlW : w.heap.size + 1 + 1 + 1 < W.heap.size := hB4.lt
  have hlq : (wordsOf (signed (s != false) (x.natAbs / y.natAbs)).natAbs).length ≤ 1000000 := by rw [signed_abs]; have := wordsOf_len2 (m := x.natAbs / y.natAbs) (by omega); omega
  have hlr : (wordsOf (signed s (x.natAbs % y.natAbs)).natAbs).length ≤ 1000000 := by rw [signed_abs]; have := wordsOf_len2 (m := x.natAbs % y.natAbs) (by omega); omega
  have hly : (wordsOf ((y.natAbs : Nat) : Int).natAbs).length ≤ 1000000 := by rw [Int.natAbs_natCast]; have := wordsOf_len2 (m := y.natAbs) (by omega); omega
  have hly1 : (wordsOf y.natAbs).length ≤ 1000000 := by have := wordsOf_len2 (m := y.natAbs) (by omega); omega
  have hb3 := (hB3.ext hE4).lt
  have hb4 := (hB4.ext hE4).lt
  have f6 := f4.lt
  cases s3
  · go_wp2_with fail
    obtain ⟨wc, hwc⟩ : ∃ wc : World, wc = w4.alloc (.cells #[.bool false, .slice A3 n3 c3] 37) := ⟨_, rfl⟩
    rw [← hwc]
    have hEW : Ext W wc := by rw [hwc]; exact hE4.alloc _
    have hBq : Blk wc w3.heap.size 37 #[.bool s2, .slice A2 n2 c2] := by rw [hwc]; exact f4.alloc _
    have hBr : Blk wc w4.heap.size 37 #[.bool false, .slice A3 n3 c3] := by rw [hwc]; exact Blk.newAt _ _ _ rfl
    have hq2 : IsInt wc (.bool s2) (.slice A2 n2 c2) (signed (s != false) (x.natAbs / y.natAbs)) := by rw [hwc]; exact hq2'.alloc _
    have hr2 : IsInt wc (.bool false) (.slice A3 n3 c3) (signed s (x.natAbs % y.natAbs)) := by rw [hwc]; exact hm3.alloc _
    clear hwc hq2' hm3 hm2 f4 f1 f6 hb3 hb4 bd hq hr
    generalize w3.heap.size = qb at *
    generalize w4.heap.size = rb at *
    have bq := hBq.two
    have br := hBr.two
    have b3 := (hB3.ext hEW).two
    have b4 := (hB4.ext hEW).two
    have lq := hBq.lt
    have lr := hBr.lt
    have l3 := (hB3.ext hEW).lt
    have l4 := (hB4.ext hEW).lt
    have d1 : ¬ qb = w.heap.size + 1 + 1 := by omega
    have d2 : ¬ qb = w.heap.size + 1 + 1 + 1 := by omega
    have d3 : ¬ rb = w.heap.size + 1 + 1 := by omega
    have d4 : ¬ rb = w.heap.size + 1 + 1 + 1 := by omega
    have d5 : ¬ w.heap.size + 1 + 1 = qb := by omega
    have d6 : ¬ w.heap.size + 1 + 1 + 1 = qb := by omega
    have d7 : ¬ w.heap.size + 1 + 1 = rb := by omega
    have d8 : ¬ w.heap.size + 1 + 1 + 1 = rb := by omega
    go_region_held3 (fun w' => w'.cell? ⟨qb, 0, none⟩ = some (.bool s2) ∧ w'.cell? ⟨qb, 1, none⟩ = some (.slice A2 n2 c2) ∧ w'.cell? ⟨rb, 0, none⟩ = some (.bool false) ∧ w'.cell? ⟨rb, 1, none⟩ = some (.slice A3 n3 c3)) (go_keep) (fail)
    go_wp2
    refine bodyPost_ret (v := .tuple #[.agg #[.bool s2, .slice A2 n2 c2], .agg #[.bool false, .slice A3 n3 c3], .int .i64 0]) (by simp [results, Tryz.results158, go_sem, b3, b4]) rfl ?_
    have hbz := hr2.1
    have hfin := divmod_pos x y hy0 (by simpa [ES.out] using hbz)
    rw [← ES.out, ← ES'.out] at hfin
    refine ⟨_, _, _, _, _, _, _, _, rfl, ?_, ?_, ?_⟩
    · rw [← hfin.1]; exact ((hq2.ext ((Ext.refl _).drew)).set2 (TypeAt.ext (hB3.ext hEW).type ((Ext.refl _).drew)) (by decide) _ _).set2 (((TypeAt.ext (hB4.ext hEW).type ((Ext.refl _).drew)).setCell _ _).setCell _ _) (by decide) _ _
    · rw [← hfin.2]; exact ((hr2.ext ((Ext.refl _).drew)).set2 (TypeAt.ext (hB3.ext hEW).type ((Ext.refl _).drew)) (by decide) _ _).set2 (((TypeAt.ext (hB4.ext hEW).type ((Ext.refl _).drew)).setCell _ _).setCell _ _) (by decide) _ _
    · exact (((hE.trans hEW).drew).set2 (by omega) _ _).set2 (by omega) _ _
  · go_upto_region 7 with fail
    obtain ⟨wc, hwc⟩ : ∃ wc : World, wc = w4.alloc (.cells #[.bool true, .slice A3 n3 c3] 37) := ⟨_, rfl⟩
    rw [← hwc]
    have hEW : Ext W wc := by rw [hwc]; exact hE4.alloc _
    have hBq : Blk wc w3.heap.size 37 #[.bool s2, .slice A2 n2 c2] := by rw [hwc]; exact f4.alloc _
    have hBr : Blk wc w4.heap.size 37 #[.bool true, .slice A3 n3 c3] := by rw [hwc]; exact Blk.newAt _ _ _ rfl
    have hq2 : IsInt wc (.bool s2) (.slice A2 n2 c2) (signed (s != false) (x.natAbs / y.natAbs)) := by rw [hwc]; exact hq2'.alloc _
    have hr2 : IsInt wc (.bool true) (.slice A3 n3 c3) (signed s (x.natAbs % y.natAbs)) := by rw [hwc]; exact hm3.alloc _
    clear hwc hq2' hm3 hm2 f4 f1 f6 hb3 hb4 bd hq hr
    generalize w3.heap.size = qb at *
    generalize w4.heap.size = rb at *
    have hbz := Lib.hid hr2.1
    have bq := hBq.two
    have br := hBr.two
    have lq := hBq.lt
    have lr := hBr.lt
    have p2 := HK.out wc hEW
    have d1 : ¬ qb = w.heap.size + 1 + 1 := by omega
    have d2 : ¬ qb = w.heap.size + 1 + 1 + 1 := by omega
    have d3 : ¬ rb = w.heap.size + 1 + 1 := by omega
    have d4 : ¬ rb = w.heap.size + 1 + 1 + 1 := by omega
    have d5 : ¬ w.heap.size + 1 + 1 = qb := by omega
    have d6 : ¬ w.heap.size + 1 + 1 + 1 = qb := by omega
    have d7 : ¬ w.heap.size + 1 + 1 = rb := by omega
    have d8 : ¬ w.heap.size + 1 + 1 + 1 = rb := by omega
    go_cut [] (fun wx => ∃ (s5 : Bool) (A5 : Option Addr) (n5 c5 : Nat), Blk wx rb 37 #[.bool s5, .slice A5 n5 c5] ∧ IsInt wx (.bool s5) (.slice A5 n5 c5) (signed s (x.natAbs % y.natAbs) + (y.natAbs : Int)) ∧
      Blk wx qb 37 #[.bool s2, .slice A2 n2 c2] ∧ IsInt wx (.bool s2) (.slice A2 n2 c2) (signed (s != false) (x.natAbs / y.natAbs)) ∧ Ext W wx)
    case first =>
      go_region_with (first | (go_at_call 156; (with_reducible refine (iAbs1_any _ _ _ _ hly1 (H2.out.ext (by (repeat (first | with_reducible assumption | with_reducible exact Ext.refl _ | with_reducible refine Ext.drew ?_ | with_reducible refine Ext.drewN ?_ _ | with_reducible refine Ext.alloc ?_ _ | with_reducible refine Ext.set2 ?_ (by omega) _ _ | with_reducible refine Ext.setCell ?_ (by first | omega | (simp; done) | (simp; omega)) _ | with_reducible refine Ext.trans ?_ (by with_reducible assumption)))))).mono ?_); rintro e w2 ⟨s4, A4, n4, c4, rfl, hm4, he4⟩; have bq4 := (hBq.ext (show Ext wc w2 by (repeat (first | with_reducible assumption | with_reducible exact Ext.refl _ | with_reducible refine Ext.drew ?_ | with_reducible refine Ext.drewN ?_ _ | with_reducible refine Ext.alloc ?_ _ | with_reducible refine Ext.set2 ?_ (by omega) _ _ | with_reducible refine Ext.setCell ?_ (by first | omega | (simp; done) | (simp; omega)) _ | with_reducible refine Ext.trans ?_ (by with_reducible assumption))))).two; have br4 := (hBr.ext (show Ext wc w2 by (repeat (first | with_reducible assumption | with_reducible exact Ext.refl _ | with_reducible refine Ext.drew ?_ | with_reducible refine Ext.drewN ?_ _ | with_reducible refine Ext.alloc ?_ _ | with_reducible refine Ext.set2 ?_ (by omega) _ _ | with_reducible refine Ext.setCell ?_ (by first | omega | (simp; done) | (simp; omega)) _ | with_reducible refine Ext.trans ?_ (by with_reducible assumption))))).two) | (go_at_call 20; (with_reducible refine (iAdd1_any _ _ _ _ _ _ _ hlr hly (hr2.ext (by (repeat (first | with_reducible assumption | with_reducible exact Ext.refl _ | with_reducible refine Ext.drew ?_ | with_reducible refine Ext.drewN ?_ _ | with_reducible refine Ext.alloc ?_ _ | with_reducible refine Ext.set2 ?_ (by omega) _ _ | with_reducible refine Ext.setCell ?_ (by first | omega | (simp; done) | (simp; omega)) _ | with_reducible refine Ext.trans ?_ (by with_reducible assumption))))) hm4).mono ?_); rintro e w3 ⟨s5, A5, n5, c5, rfl, hm5, he5⟩; have bq5 := (hBq.ext (show Ext wc w3 by (repeat (first | with_reducible assumption | with_reducible exact Ext.refl _ | with_reducible refine Ext.drew ?_ | with_reducible refine Ext.drewN ?_ _ | with_reducible refine Ext.alloc ?_ _ | with_reducible refine Ext.set2 ?_ (by omega) _ _ | with_reducible refine Ext.setCell ?_ (by first | omega | (simp; done) | (simp; omega)) _ | with_reducible refine Ext.trans ?_ (by with_reducible assumption))))).two; have br5 := (hBr.ext (show Ext wc w3 by (repeat (first | with_reducible assumption | with_reducible exact Ext.refl _ | with_reducible refine Ext.drew ?_ | with_reducible refine Ext.drewN ?_ _ | with_reducible refine Ext.alloc ?_ _ | with_reducible refine Ext.set2 ?_ (by omega) _ _ | with_reducible refine Ext.setCell ?_ (by first | omega | (simp; done) | (simp; omega)) _ | with_reducible refine Ext.trans ?_ (by with_reducible assumption))))).two))
      all_goals
        go_wp2_with fail
        go_meet
        have hx3 : Ext wc w3 := by (repeat (first | with_reducible assumption | with_reducible exact Ext.refl _ | with_reducible refine Ext.drew ?_ | with_reducible refine Ext.drewN ?_ _ | with_reducible refine Ext.alloc ?_ _ | with_reducible refine Ext.set2 ?_ (by omega) _ _ | with_reducible refine Ext.setCell ?_ (by first | omega | (simp; done) | (simp; omega)) _ | with_reducible refine Ext.trans ?_ (by with_reducible assumption)))
        exact ⟨s5, A5, n5, c5, (hBr.ext hx3).set2 _ _, hm5.set2 (hBr.ext hx3).type (by decide) _ _, (hBq.ext hx3).far2 hne' _ _, (hq2.ext hx3).set2 (hBr.ext hx3).type (by decide) _ _, (hEW.trans hx3).set2 hrbW _ _⟩
    case rest =>
      clear hBq hBr hq2 hr2 bq br p2 lq lr hEW
      obtain ⟨s5, A5, n5, c5, hBr, hr5, hBq, hq2, hEW5⟩ := hcut
      have p2 := HK.out wc hEW5
      have bq := hBq.two
      have hl1 : (wordsOf ((1 : Nat) : Int).natAbs).length ≤ 1000000 := by decide
      go_wp2_with fail
      go_upto_region 10 with fail
      go_cut [] (fun wx => ∃ (s8 : Bool) (A8 : Option Addr) (n8 c8 : Nat), Blk wx qb 37 #[.bool s8, .slice A8 n8 c8] ∧ IsInt wx (.bool s8) (.slice A8 n8 c8) (signed (s != false) (x.natAbs / y.natAbs) - 1) ∧
        Blk wx rb 37 #[.bool s5, .slice A5 n5 c5] ∧ IsInt wx (.bool s5) (.slice A5 n5 c5) (signed s (x.natAbs % y.natAbs) + (y.natAbs : Int)) ∧ Ext W wx)
      case first =>
        go_region_with (first | (go_at_call 12; (with_reducible refine (Of1_any 1 _ (by omega) (by omega)).mono ?_); rintro e w3 ⟨s6, A6, n6, c6, rfl, hm6, he6⟩; have bq6 := (hBq.ext (show Ext wc w3 by (repeat (first | with_reducible assumption | with_reducible exact Ext.refl _ | with_reducible refine Ext.drew ?_ | with_reducible refine Ext.drewN ?_ _ | with_reducible refine Ext.alloc ?_ _ | with_reducible refine Ext.set2 ?_ (by omega) _ _ | with_reducible refine Ext.setCell ?_ (by first | omega | (simp; done) | (simp; omega)) _ | with_reducible refine Ext.trans ?_ (by with_reducible assumption))))).two) | (go_at_call 200; (with_reducible refine (iSub1_any _ _ _ _ _ _ _ hlq hl1 (hq2.ext (by (repeat (first | with_reducible assumption | with_reducible exact Ext.refl _ | with_reducible refine Ext.drew ?_ | with_reducible refine Ext.drewN ?_ _ | with_reducible refine Ext.alloc ?_ _ | with_reducible refine Ext.set2 ?_ (by omega) _ _ | with_reducible refine Ext.setCell ?_ (by first | omega | (simp; done) | (simp; omega)) _ | with_reducible refine Ext.trans ?_ (by with_reducible assumption))))) hm6).mono ?_); rintro e w5 ⟨s8, A8, n8, c8, rfl, hm8, he8⟩; have bq8 := (hBq.ext (show Ext wc w5 by (repeat (first | with_reducible assumption | with_reducible exact Ext.refl _ | with_reducible refine Ext.drew ?_ | with_reducible refine Ext.drewN ?_ _ | with_reducible refine Ext.alloc ?_ _ | with_reducible refine Ext.set2 ?_ (by omega) _ _ | with_reducible refine Ext.setCell ?_ (by first | omega | (simp; done) | (simp; omega)) _ | with_reducible refine Ext.trans ?_ (by with_reducible assumption))))).two))
        all_goals
          go_wp2_with fail
          go_meet
          have hx5 : Ext wc w5 := by (repeat (first | with_reducible assumption | with_reducible exact Ext.refl _ | with_reducible refine Ext.drew ?_ | with_reducible refine Ext.drewN ?_ _ | with_reducible refine Ext.alloc ?_ _ | with_reducible refine Ext.set2 ?_ (by omega) _ _ | with_reducible refine Ext.setCell ?_ (by first | omega | (simp; done) | (simp; omega)) _ | with_reducible refine Ext.trans ?_ (by with_reducible assumption)))
          exact ⟨s8, A8, n8, c8, (hBq.ext hx5).set2 _ _, hm8.set2 (hBq.ext hx5).type (by decide) _ _, (hBr.ext hx5).far2 (Ne.symm hne') _ _, (hr5.ext hx5).set2 (hBq.ext hx5).type (by decide) _ _, (hEW5.trans hx5).set2 hqbW _ _⟩
      case rest =>
        clear hBq hBr hr5 hq2 bq p2 hEW5
        obtain ⟨s8, A8, n8, c8, hBq, hq8, hBr, hr5, hEW8⟩ := hcut
        have bq := hBq.two
        have br := hBr.two
        have b3 := (hB3.ext hEW8).two
        have b4 := (hB4.ext hEW8).two
        have lq := hBq.lt
        have lr := hBr.lt
        have l3 := (hB3.ext hEW8).lt
        have l4 := (hB4.ext hEW8).lt
        go_wp2_with fail
        go_region_held3 (fun w' => w'.cell? ⟨qb, 0, none⟩ = some (.bool s8) ∧ w'.cell? ⟨qb, 1, none⟩ = some (.slice A8 n8 c8) ∧ w'.cell? ⟨rb, 0, none⟩ = some (.bool s5) ∧ w'.cell? ⟨rb, 1, none⟩ = some (.slice A5 n5 c5)) (go_keep) (fail)
        go_wp2
        refine bodyPost_ret (v := .tuple #[.agg #[.bool s8, .slice A8 n8 c8], .agg #[.bool s5, .slice A5 n5 c5], .int .i64 0]) (by simp [results, Tryz.results158, go_sem, b3, b4]) rfl ?_
        have hfin := divmod_neg x y hy0 (by simpa [ES.out] using hbz.out)
        rw [← ES.out, ← ES'.out, hsg.out] at hfin
        refine ⟨_, _, _, _, _, _, _, _, rfl, ?_, ?_, ?_⟩
        · rw [← hfin.1]; exact ((hq8.ext ((Ext.refl _).drew)).set2 (TypeAt.ext (hB3.ext hEW8).type ((Ext.refl _).drew)) (by decide) _ _).set2 (((TypeAt.ext (hB4.ext hEW8).type ((Ext.refl _).drew)).setCell _ _).setCell _ _) (by decide) _ _
        · rw [← hfin.2]; exact ((hr5.ext ((Ext.refl _).drew)).set2 (TypeAt.ext (hB3.ext hEW8).type ((Ext.refl _).drew)) (by decide) _ _).set2 (((TypeAt.ext (hB4.ext hEW8).type ((Ext.refl _).drew)).setCell _ _).setCell _ _) (by decide) _ _
        · exact (((hE.trans hEW8).drew).set2 (by omega) _ _).set2 (by omega) _ _

end Go.Proofs.YtekipapkcgoieaaGreatDoor
