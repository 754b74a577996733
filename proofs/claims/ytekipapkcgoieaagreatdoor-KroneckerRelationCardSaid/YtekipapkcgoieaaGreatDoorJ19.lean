/-
  The fixed calls of the law are as the document says.
-/
import Derived.Test.YtekipapkcgoieaaGreatDoorJ18
set_option linter.unusedVariables false
set_option linter.unusedSimpArgs false

/- The fixed calls of the law are as the document says. -/
namespace Go.Proofs.YtekipapkcgoieaaGreatDoor
open Go.RowKit
attribute [local go_sem ↓] Go.wp_at_zero Go.wp_at_succ

theorem same_true {b1 v1 b2 v2 b3 v3 b4 v4 : Value} {p q : Rat} {w : World} (h1 : IsRat w b1 v1 b2 v2 p) (h2 : IsRat w b3 v3 b4 v4 q) (hpq : p = q) (hn : p.num.natAbs ≤ 18446744073709551615) (hd : p.den ≤ 18446744073709551615) :
    Calls Tryz.prog 13 #[.agg #[b1, v1, b2, v2], .agg #[b3, v3, b4, v4]] w fun e w' => e = .returned (.bool true) ∧ Ext w w' := by
  subst hpq
  have l1 := wordsOf_len2 (m := p.num.natAbs) (by omega)
  have l2 := wordsOf_len2 (m := p.den) (by omega)
  exact (rSame1_any b1 v1 b2 v2 b3 v3 b4 v4 p p w (by omega) (by omega) (by omega) (by omega) h1 h2).mono fun e w' ⟨he, hE⟩ => ⟨by rw [he]; simp, hE⟩
theorem strs3 {w : World} {g : Nat} {a b c : List UInt8} (h : Blk w g 9 #[.string ⟨a.toArray⟩, .string ⟨b.toArray⟩, .string ⟨c.toArray⟩]) : IsStrs w (.slice (some ⟨g, 0, none⟩) 3 3) [a, b, c] := by
  refine ⟨fun l hl => ?_, .inr ⟨g, 0, 3, rfl, Nat.le_refl _, h.type, fun j l hl => ?_⟩⟩
  · simp at hl
    rcases hl with rfl | rfl | rfl <;> simp [Value.oneCell']
  · intro i u hu
    have h0 := h.cell 0
    have h1 := h.cell 1
    have h2 := h.cell 2
    match j with
    | 0 => simp at hl; subst hl; match i with
      | 0 => simp at hu; subst hu; simpa using h0
      | i + 1 => simp at hu
    | 1 => simp at hl; subst hl; match i with
      | 0 => simp at hu; subst hu; simpa using h1
      | i + 1 => simp at hu
    | 2 => simp at hl; subst hl; match i with
      | 0 => simp at hu; subst hu; simpa using h2
      | i + 1 => simp at hu
    | j + 3 => simp at hl

set_option maxRecDepth 100000 in
set_option maxHeartbeats 8000000 in
theorem examples_any (w : World) (ht : Tab w) :
    Calls Tryz.prog 6 #[] w fun e w' => e = .returned (.bool true) ∧ Ext w w' := by
  have HA1 := Lib.hid (fun (w' : World) (k : Ext w w') => AuditK_R 1 w' (by omega) (by omega) (ht.ext k))
  have HA2 := Lib.hid (fun (w' : World) (k : Ext w w') => AuditK_R 2 w' (by omega) (by omega) (ht.ext k))
  have HA0 := Lib.hid (fun (w' : World) => AuditK_out 0 w' (.inl (by omega)))
  clear ht
  go_enter Tryz.func6, Tryz.ntmps6
  go_wp2_with fail
  refine (HA1.out w (Ext.refl _)).mono ?_
  rintro e w1 ⟨av, a1, a2, a3, a4, rfl, hP1, hQ1, hE1⟩
  change IsParts w1 av (partsR 1 5) at hP1
  rw [parts_1] at hP1
  change IsRat w1 a1 a2 a3 a4 ((tot 1 1 : Int) : Rat) at hQ1
  rw [tot_1] at hQ1
  obtain ⟨A1, k1, rfl⟩ := hP1.shape
  obtain ⟨s1, B1, n1, c1, s2, B2, n2, c2, rfl, rfl, rfl, rfl⟩ := hQ1.form
  change IsParts w1 (.slice A1 3 k1) ps1 at hP1
  go_upto_region 2 with fail
  change Code.wp _ _ _ _ (w1.alloc (.cells #[.slice A1 3 k1, .bool s1, .slice B1 n1 c1, .bool s2, .slice B2 n2 c2] 41))
  obtain ⟨w2, hw2⟩ : ∃ w2 : World, w2 = w1.alloc (.cells #[.slice A1 3 k1, .bool s1, .slice B1 n1 c1, .bool s2, .slice B2 n2 c2] 41) := ⟨_, rfl⟩
  rw [← hw2]
  have hE2 : Ext w1 w2 := by rw [hw2]; exact (Ext.refl _).alloc _
  have hBa : Blk w2 w1.heap.size 41 #[.slice A1 3 k1, .bool s1, .slice B1 n1 c1, .bool s2, .slice B2 n2 c2] := by rw [hw2]; exact Blk.newAt _ _ _ rfl
  have HP1 := Lib.hid (hP1.ext hE2)
  have HQ1 := Lib.hid (hQ1.ext hE2)
  clear hw2 hP1 hQ1
  generalize w1.heap.size = ga at *
  go_wp2_with fail
  refine (HA2.out w2 (hE1.trans hE2)).mono ?_
  rintro e w3 ⟨bv, a1, a2, a3, a4, rfl, hP2, hQ2, hE3⟩
  change IsParts w3 bv (partsR 2 9) at hP2
  rw [parts_2] at hP2
  change IsRat w3 a1 a2 a3 a4 ((tot 2 2 : Int) : Rat) at hQ2
  rw [tot_2] at hQ2
  obtain ⟨A2, k2, rfl⟩ := hP2.shape
  obtain ⟨s3, B3, n3, c3, s4, B4, n4, c4, rfl, rfl, rfl, rfl⟩ := hQ2.form
  change IsParts w3 (.slice A2 3 k2) ps2 at hP2
  go_upto_region 3 with fail
  change Code.wp _ _ _ _ (w3.alloc (.cells #[.slice A2 3 k2, .bool s3, .slice B3 n3 c3, .bool s4, .slice B4 n4 c4] 41))
  obtain ⟨w4, hw4⟩ : ∃ w4 : World, w4 = w3.alloc (.cells #[.slice A2 3 k2, .bool s3, .slice B3 n3 c3, .bool s4, .slice B4 n4 c4] 41) := ⟨_, rfl⟩
  rw [← hw4]
  have hE4 : Ext w3 w4 := by rw [hw4]; exact (Ext.refl _).alloc _
  have hBb : Blk w4 w3.heap.size 41 #[.slice A2 3 k2, .bool s3, .slice B3 n3 c3, .bool s4, .slice B4 n4 c4] := by rw [hw4]; exact Blk.newAt _ _ _ rfl
  have HP2 := Lib.hid (hP2.ext hE4)
  have HQ2 := Lib.hid (hQ2.ext hE4)
  have hE24 := hE3.trans hE4
  clear hw4 hP2 hQ2 hE3 hE4
  generalize w3.heap.size = gb at *
  go_wp2_with fail
  refine (HA0.out w4).mono ?_
  rintro e w5 ⟨rfl, hE5⟩
  go_upto_region 4 with fail
  obtain ⟨w6, hw6⟩ : ∃ w6 : World, w6 = w5.alloc (.cells #[.slice none 0 0, .bool false, .slice none 0 0, .bool false, .slice none 0 0] 41) := ⟨_, rfl⟩
  rw [← hw6]
  have hE46 : Ext w4 w6 := by rw [hw6]; exact hE5.alloc _
  clear hw6
  generalize w5.heap.size = gc at *
  have hEw : Ext w w6 := (hE1.trans hE2).trans (hE24.trans hE46)
  have HBA := Lib.hid ((hBa.ext hE24).ext hE46)
  have HBB := Lib.hid (hBb.ext hE46)
  have HPA := Lib.hid ((HP1.out.ext hE24).ext hE46)
  have HQA := Lib.hid ((HQ1.out.ext hE24).ext hE46)
  have HPB := Lib.hid (HP2.out.ext hE46)
  have HQB := Lib.hid (HQ2.out.ext hE46)
  clear hBa hBb HP1 HQ1 HP2 HQ2 hE1 hE2 hE24 hE46 hE5 HA0 HA1 HA2
  have hps2 : ∀ p ∈ ps2, PartTw p := fun p hp => by rw [← parts_2] at hp; exact parts_tw hp
  have hnl2 : ∀ p ∈ ps2, p.name.length ≤ 1000 := fun p hp => by rw [← parts_2] at hp; exact parts_short (by omega) hp
  have hok2 : ∀ hs : List HeldD, hs.Perm (ps2.map entR) → ∀ x ∈ hs, HeldOk x := fun hs hp => by rw [← parts_2] at hp; exact held_ok (by omega) hp
  have hln2 : ∀ hs : List HeldD, hs.Perm (ps2.map entR) → hs.length ≤ 100000 := fun hs hp => by have := hp.length_eq; simp [ps2] at this; omega
  have HS2 := Lib.hid (fun (W : World) (sv : Value) (hs : List HeldD) (k : Ext w6 W) (hp : hs.Perm (ps2.map entR)) (hS : IsShelf W sv hs) =>
    (SumK_any (.slice A2 3 k2) (.bool s3) (.slice B3 n3 c3) (.bool s4) (.slice B4 n4 c4) sv (.slice none 0 0) ps2 ((4 : Int) : Rat) hs [] W (by simp [ps2]) (hln2 hs hp) (by simp) (hok2 hs hp) hps2 hnl2 (HPB.out.ext k) (HQB.out.ext k) hS (IsNums.nil _)).mono (R' := fun e w' => ∃ (s : Bool) (A : Option Addr) (n c : Nat) (s' : Bool) (A' : Option Addr) (n' c' : Nat) (Am : Option Addr) (cm : Nat), e = .returned (.tuple #[.agg #[.bool s, .slice A n c, .bool s', .slice A' n' c'], .slice Am 0 cm]) ∧ IsRat w' (.bool s) (.slice A n c) (.bool s') (.slice A' n' c') 4 ∧ Ext W w')
      fun e w' ⟨a, b, c, d, m, he, hq, hm, hE⟩ => by
        obtain ⟨h1, h2⟩ := sum_2 hp
        rw [h1] at hq
        rw [h2] at hm
        obtain ⟨s, A, n, c, s', A', n', c', rfl, rfl, rfl, rfl⟩ := hq.form
        obtain ⟨Am, cm, rfl⟩ := hm.shape
        exact ⟨_, _, _, _, _, _, _, _, _, _, he, hq, hE⟩)
  have HPT := Lib.hid (show ∀ w' : World, Calls Tryz.prog 18 #[.int .i64 2] w' fun e w'' => ∃ (v : Value) (hs : List HeldD), e = .returned (.agg #[v]) ∧ hs.Perm (ps2.map entR) ∧ IsShelf w'' v hs ∧ Ext w' w'' from fun w' => by
    have := Parts38_any 2 w' (by omega) (by omega)
    change Calls _ _ _ _ fun e w'' => ∃ (v : Value) (hs : List HeldD), e = .returned (.agg #[v]) ∧ hs.Perm ((partsR 2 9).map entR) ∧ IsShelf w'' v hs ∧ Ext w' w'' at this
    rw [parts_2] at this
    exact this)
  have HK5 : Hid (∀ w', Ext w6 w' → w'.cell? ⟨gb, 0, none⟩ = some (.slice A2 3 k2) ∧ w'.cell? ⟨gb, 1, none⟩ = some (.bool s3) ∧ w'.cell? ⟨gb, 2, none⟩ = some (.slice B3 n3 c3) ∧ w'.cell? ⟨gb, 3, none⟩ = some (.bool s4) ∧ w'.cell? ⟨gb, 4, none⟩ = some (.slice B4 n4 c4)) := fun w' k => ⟨(HBB.out.ext k).cell 0, (HBB.out.ext k).cell 1, (HBB.out.ext k).cell 2, (HBB.out.ext k).cell 3, (HBB.out.ext k).cell 4⟩
  go_cut [7, 8] (fun p7 q8 wx => ∃ (gr : Nat) (s : Bool) (A : Option Addr) (n c : Nat) (s' : Bool) (A' : Option Addr) (n' c' : Nat) (Am : Option Addr) (cm : Nat), p7 = .pointer (some ⟨gr, 0, none⟩) ∧ q8 = .slice Am 0 cm ∧ Blk wx gr 39 #[.bool s, .slice A n c, .bool s', .slice A' n' c'] ∧
    IsRat wx (.bool s) (.slice A n c) (.bool s') (.slice A' n' c') 4 ∧ Ext w6 wx)
  case first =>
    go_region_held3 (fun w' => w'.cell? ⟨gb, 0, none⟩ = some (.slice A2 3 k2) ∧ w'.cell? ⟨gb, 1, none⟩ = some (.bool s3) ∧ w'.cell? ⟨gb, 2, none⟩ = some (.slice B3 n3 c3) ∧ w'.cell? ⟨gb, 3, none⟩ = some (.bool s4) ∧ w'.cell? ⟨gb, 4, none⟩ = some (.slice B4 n4 c4))
      (first | (refine HK5.out _ ?_; (repeat (first | with_reducible assumption | with_reducible exact Ext.refl _ | with_reducible refine Ext.drew ?_ | with_reducible refine Ext.drewN ?_ _ | with_reducible refine Ext.alloc ?_ _ | with_reducible refine Ext.set2 ?_ (by omega) _ _ | with_reducible refine Ext.setCell ?_ (by first | omega | (simp; done) | (simp; omega)) _ | with_reducible refine Ext.trans ?_ (by with_reducible assumption))); done))
      (first | (go_at_call 18; (with_reducible refine (HPT.out _).mono ?_); rintro e w7 ⟨sv, hs, rfl, hp, hS, hE7⟩; have h67 : w6.heap.size ≤ w7.heap.size := (by first | exact hE7.size' | (have h7 := hE7.size'; simp at h7; omega))) | (go_at_call 10; (with_reducible refine (HS2.out _ _ hs ?q1 hp ?q2).mono ?_); (case q1 => (repeat (first | with_reducible assumption | with_reducible exact Ext.refl _ | with_reducible refine Ext.drew ?_ | with_reducible refine Ext.drewN ?_ _ | with_reducible refine Ext.alloc ?_ _ | with_reducible refine Ext.set2 ?_ (by omega) _ _ | with_reducible refine Ext.setCell ?_ (by first | omega | (simp; done) | (simp; omega)) _ | with_reducible refine Ext.trans ?_ (by with_reducible assumption)))); (case q2 => (refine IsShelf.ext hS ?_; (repeat (first | with_reducible assumption | with_reducible exact Ext.refl _ | with_reducible refine Ext.drew ?_ | with_reducible refine Ext.drewN ?_ _ | with_reducible refine Ext.alloc ?_ _ | with_reducible refine Ext.set2 ?_ (by omega) _ _ | with_reducible refine Ext.setCell ?_ (by first | omega | (simp; done) | (simp; omega)) _ | with_reducible refine Ext.trans ?_ (by with_reducible assumption))))); rintro e w8 ⟨s7, A7, n7, c7, s8, A8, n8, c8, Am, cm, rfl, hq8, hE8⟩; (try ((refine mp_of (p := Blk w8 w6.heap.size 39 #[.bool false, .slice none 0 0, .bool false, .slice none 0 0]) ?_ ?_); (focus (refine Blk.ext ?_ hE8; (repeat (first | with_reducible assumption | with_reducible exact Blk.newAt _ _ _ (by first | rfl | (simp; done) | (simp; omega)) | with_reducible refine Blk.alloc ?_ _ | with_reducible refine Blk.set2 (x := .bool false) (y := .slice none 0 0) ?_ _ _ | with_reducible refine Blk.far2 ?_ (by omega) _ _ | with_reducible refine Blk.drew ?_ | with_reducible refine Blk.ext ?_ (by with_reducible assumption))); done)); intro hb9; have y9 := hb9.four)); (try ((refine mp_of (p := Blk w8 w7.heap.size 39 #[.bool false, .slice none 0 0, .bool false, .slice none 0 0]) ?_ ?_); (focus (refine Blk.ext ?_ hE8; (repeat (first | with_reducible assumption | with_reducible exact Blk.newAt _ _ _ (by first | rfl | (simp; done) | (simp; omega)) | with_reducible refine Blk.alloc ?_ _ | with_reducible refine Blk.set2 (x := .bool false) (y := .slice none 0 0) ?_ _ _ | with_reducible refine Blk.far2 ?_ (by omega) _ _ | with_reducible refine Blk.drew ?_ | with_reducible refine Blk.ext ?_ (by with_reducible assumption))); done)); intro hb8; have y8 := hb8.four))))
    all_goals
      go_wp2_with fail
      go_meet
      first
        | exact ⟨_, s7, A7, n7, c7, s8, A8, n8, c8, Am, cm, rfl, rfl, by (repeat (first | with_reducible assumption | with_reducible exact Blk.newAt _ _ _ (by first | rfl | (simp; done) | (simp; omega)) | with_reducible refine Blk.alloc ?_ _ | with_reducible refine Blk.set2 (x := .bool false) (y := .slice none 0 0) ?_ _ _ | with_reducible refine Blk.far2 ?_ (by omega) _ _ | with_reducible refine Blk.drew ?_ | with_reducible refine Blk.ext ?_ (by with_reducible assumption))), ⟨hq8.1.alloc _, hq8.2.alloc _⟩, by (repeat (first | with_reducible assumption | with_reducible exact Ext.refl _ | with_reducible refine Ext.drew ?_ | with_reducible refine Ext.drewN ?_ _ | with_reducible refine Ext.alloc ?_ _ | with_reducible refine Ext.set2 ?_ (by omega) _ _ | with_reducible refine Ext.setCell ?_ (by first | omega | (simp; done) | (simp; omega)) _ | with_reducible refine Ext.trans ?_ (by with_reducible assumption)))⟩
        | exact ⟨_, s7, A7, n7, c7, s8, A8, n8, c8, Am, cm, rfl, rfl, (((hb9.set_ 0 (.bool s7)).set_ 1 (.slice A7 n7 c7)).set_ 2 (.bool s8)).set_ 3 (.slice A8 n8 c8), ⟨hq8.1.set4 hb9.type (by decide) _ _ _ _, hq8.2.set4 hb9.type (by decide) _ _ _ _⟩, Ext.set4 (by (repeat (first | with_reducible assumption | with_reducible exact Ext.refl _ | with_reducible refine Ext.drew ?_ | with_reducible refine Ext.drewN ?_ _ | with_reducible refine Ext.alloc ?_ _ | with_reducible refine Ext.set2 ?_ (by omega) _ _ | with_reducible refine Ext.setCell ?_ (by first | omega | (simp; done) | (simp; omega)) _ | with_reducible refine Ext.trans ?_ (by with_reducible assumption)))) (Nat.le_refl _) _ _ _ _⟩
        | exact ⟨_, s7, A7, n7, c7, s8, A8, n8, c8, Am, cm, rfl, rfl, (((hb8.set_ 0 (.bool s7)).set_ 1 (.slice A7 n7 c7)).set_ 2 (.bool s8)).set_ 3 (.slice A8 n8 c8), ⟨hq8.1.set4 hb8.type (by decide) _ _ _ _, hq8.2.set4 hb8.type (by decide) _ _ _ _⟩, Ext.set4 (by (repeat (first | with_reducible assumption | with_reducible exact Ext.refl _ | with_reducible refine Ext.drew ?_ | with_reducible refine Ext.drewN ?_ _ | with_reducible refine Ext.alloc ?_ _ | with_reducible refine Ext.set2 ?_ (by omega) _ _ | with_reducible refine Ext.setCell ?_ (by first | omega | (simp; done) | (simp; omega)) _ | with_reducible refine Ext.trans ?_ (by with_reducible assumption)))) h67 _ _ _ _⟩
  case rest =>
    obtain ⟨g7, s7, A7, n7, c7, s8, A8, n8, c8, Am, cm, rfl, rfl, hB7, hq7, hEc⟩ := hcut
    have HS0 := Lib.hid (fun (W : World) (k : Ext w6 W) =>
      (SumK_any (.slice A2 3 k2) (.bool s3) (.slice B3 n3 c3) (.bool s4) (.slice B4 n4 c4) (.slice none 0 0) (.slice none 0 0) ps2 ((4 : Int) : Rat) [] [] W (by simp [ps2]) (by simp) (by simp) (fun x hx => by cases hx) hps2 hnl2 (HPB.out.ext k) (HQB.out.ext k) ⟨[], RowsOf.nil _ _ _, trivial⟩ (IsNums.nil _)).mono (R' := fun e w' => ∃ (s : Bool) (A : Option Addr) (n c : Nat) (s' : Bool) (A' : Option Addr) (n' c' : Nat) (Am : Option Addr) (cm : Nat), e = .returned (.tuple #[.agg #[.bool s, .slice A n c, .bool s', .slice A' n' c'], .slice Am 3 cm]) ∧ IsRat w' (.bool s) (.slice A n c) (.bool s') (.slice A' n' c') 0 ∧ IsStrs w' (.slice Am 3 cm) [[104, 58, 52], [104, 58, 55], [104, 58, 56]] ∧ Ext W w')
        fun e w' ⟨a, b, c, d, m, he, hq, hm, hE⟩ => by
          obtain ⟨h1, h2⟩ := sum_none [] ps2
          rw [h1] at hq
          rw [h2, names_2] at hm
          obtain ⟨s, A, n, c, s', A', n', c', rfl, rfl, rfl, rfl⟩ := hq.form
          obtain ⟨Am, cm, rfl⟩ := hm.shape
          exact ⟨_, _, _, _, _, _, _, _, _, _, he, hq, hm, hE⟩)
    have HB7 := Lib.hid hB7
    have HQ7 := Lib.hid hq7
    have f0 := HK5.out wc hEc
    clear hB7 hq7 HS2
    go_wp2_with fail
    refine (HS0.out wc hEc).mono ?_
    rintro e w7 ⟨s9, A9, n9, c9, s0, A0, n0, c0, An, cn, rfl, hq9, hm9, hE7⟩
    go_upto_region 6 with fail
    obtain ⟨w8, hw8⟩ : ∃ w8 : World, w8 = w7.alloc (.cells #[.bool s9, .slice A9 n9 c9, .bool s0, .slice A0 n0 c0] 39) := ⟨_, rfl⟩
    rw [← hw8]
    have hE8 : Ext wc w8 := by rw [hw8]; exact hE7.alloc _
    have hE78 : Ext w7 w8 := by rw [hw8]; exact (Ext.refl _).alloc _
    have hB9 : Blk w8 w7.heap.size 39 #[.bool s9, .slice A9 n9 c9, .bool s0, .slice A0 n0 c0] := by rw [hw8]; exact Blk.newAt _ _ _ rfl
    have hE6 : Ext w6 w8 := hEc.trans hE8
    have HB9 := Lib.hid hB9
    have HQ9 := Lib.hid (hq9.ext hE78)
    have HM9 := Lib.hid (hm9.ext hE78)
    have HB7' := Lib.hid (HB7.out.ext hE8)
    have HQ7' := Lib.hid (HQ7.out.ext hE8)
    have f1 := HK5.out w8 hE6
    have f2 := (HBA.out.ext hE6).cell 0
    clear hw8 hq9 hm9 hB9 HB7 HQ7 hE7 hE78 f0 HS0
    generalize w7.heap.size = g9 at *
    go_upto_region 8 with fail
    have hpa8 := HPA.out.ext hE6
    obtain ⟨bp, op, _, _, _, _, _, _, _, _, rfl, _, hc0⟩ := hpa8.at 0 (by simp [ps1])
    obtain ⟨b', o', x1, X1, y1, z1, x2, X2, y2, z2, e1, hr1, hc1⟩ := hpa8.at 1 (by simp [ps1])
    injection e1 with e1; injection e1 with e1 e2; subst e1 e2
    obtain ⟨b', o', x3, X3, y3, z3, x4, X4, y4, z4, e1, hr2, hc2⟩ := hpa8.at 2 (by simp [ps1])
    injection e1 with e1; injection e1 with e1 e2; subst e1 e2
    change IsRat w8 _ _ _ _ (mkRat 2 12) at hr1
    change IsRat w8 _ _ _ _ (mkRat 1 12) at hr2
    have hBb8 := HBB.out.ext hE6
    have hBa8 := HBA.out.ext hE6
    have HK8 : Hid (∀ w', Ext w8 w' → w'.cell? ⟨ga, 0, none⟩ = some (.slice (some ⟨bp, op, none⟩) 3 k1) ∧ w'.cell? ⟨ga, 1, none⟩ = some (.bool s1) ∧ w'.cell? ⟨ga, 2, none⟩ = some (.slice B1 n1 c1) ∧ w'.cell? ⟨ga, 3, none⟩ = some (.bool s2) ∧ w'.cell? ⟨ga, 4, none⟩ = some (.slice B2 n2 c2) ∧ w'.cell? ⟨gb, 0, none⟩ = some (.slice A2 3 k2) ∧ w'.cell? ⟨gb, 1, none⟩ = some (.bool s3) ∧ w'.cell? ⟨gb, 2, none⟩ = some (.slice B3 n3 c3) ∧ w'.cell? ⟨gb, 3, none⟩ = some (.bool s4) ∧ w'.cell? ⟨gb, 4, none⟩ = some (.slice B4 n4 c4) ∧ w'.cell? ⟨g7, 0, none⟩ = some (.bool s7) ∧ w'.cell? ⟨g7, 1, none⟩ = some (.slice A7 n7 c7) ∧ w'.cell? ⟨g7, 2, none⟩ = some (.bool s8) ∧ w'.cell? ⟨g7, 3, none⟩ = some (.slice A8 n8 c8) ∧ w'.cell? ⟨g9, 0, none⟩ = some (.bool s9) ∧ w'.cell? ⟨g9, 1, none⟩ = some (.slice A9 n9 c9) ∧ w'.cell? ⟨g9, 2, none⟩ = some (.bool s0) ∧ w'.cell? ⟨g9, 3, none⟩ = some (.slice A0 n0 c0) ∧ w'.cell? ⟨bp, op, none⟩ = some (.string ⟨#[104, 58, 48]⟩) ∧ w'.cell? ⟨bp, op + 9, none⟩ = some (.string ⟨#[104, 58, 51]⟩) ∧ w'.cell? ⟨bp, op + 18, none⟩ = some (.string ⟨#[104, 58, 52]⟩) ∧ w'.cell? ⟨bp, op + 9 + 2, none⟩ = some (.bool x1) ∧ w'.cell? ⟨bp, op + 9 + 3, none⟩ = some (.slice X1 y1 z1) ∧ w'.cell? ⟨bp, op + 9 + 4, none⟩ = some (.bool x2) ∧ w'.cell? ⟨bp, op + 9 + 5, none⟩ = some (.slice X2 y2 z2) ∧ w'.cell? ⟨bp, op + 18 + 2, none⟩ = some (.bool x3) ∧ w'.cell? ⟨bp, op + 18 + 3, none⟩ = some (.slice X3 y3 z3) ∧ w'.cell? ⟨bp, op + 18 + 4, none⟩ = some (.bool x4) ∧ w'.cell? ⟨bp, op + 18 + 5, none⟩ = some (.slice X4 y4 z4)) := fun w' k => by
      have p0 := (hc0 w' k).1
      have p1 := (hc1 w' k).1
      have p2 := (hc2 w' k).1
      have q1 := (hc1 w' k).2.2
      have q2 := (hc2 w' k).2.2
      simp only [ps1, partN, List.getElem_cons_zero, List.getElem_cons_succ, name_0, name_3, name_4, Nat.zero_mul, Nat.add_zero, Nat.one_mul] at p0 p1 p2 q1 q2
      exact ⟨(hBa8.ext k).cell 0, (hBa8.ext k).cell 1, (hBa8.ext k).cell 2, (hBa8.ext k).cell 3, (hBa8.ext k).cell 4, (hBb8.ext k).cell 0, (hBb8.ext k).cell 1, (hBb8.ext k).cell 2, (hBb8.ext k).cell 3, (hBb8.ext k).cell 4, (HB7'.out.ext k).cell 0, (HB7'.out.ext k).cell 1, (HB7'.out.ext k).cell 2, (HB7'.out.ext k).cell 3, (HB9.out.ext k).cell 0, (HB9.out.ext k).cell 1, (HB9.out.ext k).cell 2, (HB9.out.ext k).cell 3, p0, p1, p2, q1.1, q1.2.1, q1.2.2.1, q1.2.2.2.1, q2.1, q2.2.1, q2.2.2.1, q2.2.2.2.1⟩
    have O1_6 := Lib.hid (fun w' : World => (show Calls Tryz.prog 24 #[.int .i64 1, .int .i64 6] w' (RRat w' (mkRat 1 6)) from rOf1_any 1 6 w' (by omega) (by omega) (by omega) (by omega)))
    have O1_12 := Lib.hid (fun w' : World => (show Calls Tryz.prog 24 #[.int .i64 1, .int .i64 12] w' (RRat w' (mkRat 1 12)) from rOf1_any 1 12 w' (by omega) (by omega) (by omega) (by omega)))
    have O1_1 := Lib.hid (fun w' : World => (show Calls Tryz.prog 24 #[.int .i64 1, .int .i64 1] w' (RRat w' (mkRat 1 1)) from rOf1_any 1 1 w' (by omega) (by omega) (by omega) (by omega)))
    have O4_1 := Lib.hid (fun w' : World => (show Calls Tryz.prog 24 #[.int .i64 4, .int .i64 1] w' (RRat w' (mkRat 4 1)) from rOf1_any 4 1 w' (by omega) (by omega) (by omega) (by omega)))
    have O0_1 := Lib.hid (fun w' : World => (show Calls Tryz.prog 24 #[.int .i64 0, .int .i64 1] w' (RRat w' (mkRat 0 1)) from rOf1_any 0 1 w' (by omega) (by omega) (by omega) (by omega)))
    have hqa8 := HQA.out.ext hE6
    have hqb8 := HQB.out.ext hE6
    have HS1 := Lib.hid (fun (w' : World) (b3 v3 b4 v4 : Value) (k : Ext w8 w') (h : IsRat w' b3 v3 b4 v4 (mkRat 1 6)) => same_true ((hr1).ext k) h (by decide) (by decide) (by decide))
    have HS2 := Lib.hid (fun (w' : World) (b3 v3 b4 v4 : Value) (k : Ext w8 w') (h : IsRat w' b3 v3 b4 v4 (mkRat 1 12)) => same_true ((hr2).ext k) h (by decide) (by decide) (by decide))
    have HS3 := Lib.hid (fun (w' : World) (b3 v3 b4 v4 : Value) (k : Ext w8 w') (h : IsRat w' b3 v3 b4 v4 (mkRat 1 1)) => same_true ((hqa8).ext k) h (by decide) (by decide) (by decide))
    have HS4 := Lib.hid (fun (w' : World) (b3 v3 b4 v4 : Value) (k : Ext w8 w') (h : IsRat w' b3 v3 b4 v4 (mkRat 4 1)) => same_true ((hqb8).ext k) h (by decide) (by decide) (by decide))
    have HS5 := Lib.hid (fun (w' : World) (b3 v3 b4 v4 : Value) (k : Ext w8 w') (h : IsRat w' b3 v3 b4 v4 (mkRat 4 1)) => same_true ((HQ7'.out).ext k) h (by decide) (by decide) (by decide))
    have HS6 := Lib.hid (fun (w' : World) (b3 v3 b4 v4 : Value) (k : Ext w8 w') (h : IsRat w' b3 v3 b4 v4 (mkRat 0 1)) => same_true ((HQ9.out).ext k) h (by decide) (by decide) (by decide))
    have HSL := Lib.hid (fun (w' : World) (bv : Value) (k : Ext w8 w') (h : IsStrs w' bv [[104, 58, 52], [104, 58, 55], [104, 58, 56]]) => (Same38_any (.slice An 3 cn) bv _ _ w' (by simp) (by simp) (HM9.out.ext k) h).mono (R' := fun e w'' => e = .returned (.bool true) ∧ Ext w' w'') fun e w'' ⟨he, n, hw⟩ => ⟨by rw [he]; simp, by rw [hw]; exact (Ext.refl _).drewN n⟩)
    have HHO := Lib.hid (fun (W : World) (sv : Value) (hs : List HeldD) (k : Ext w8 W) (hp : hs.Perm (ps2.map entR)) (hS : IsShelf W sv hs) => (HoldsK_any (.slice A2 3 k2) (.bool s3) (.slice B3 n3 c3) (.bool s4) (.slice B4 n4 c4) sv (.slice none 0 0) ps2 ((4 : Int) : Rat) hs [] W (by simp [ps2]) (hln2 hs hp) (by simp) (hok2 hs hp) hps2 hnl2 (by decide) (by decide) (HPB.out.ext (hE6.trans k)) (HQB.out.ext (hE6.trans k)) hS (IsNums.nil _)).mono (R' := fun e w' => e = .returned (.bool true) ∧ Ext W w')
      fun e w' ⟨he, hE⟩ => ⟨by
        obtain ⟨h1, h2⟩ := sum_2 hp
        rw [he]
        unfold holdsOf
        rw [h1, h2]
        rfl, hE⟩)
    clear hr1 hr2 hqa8 hqb8 hc0 hc1 hc2 hpa8 hBa8 hBb8 hps2 hnl2 hok2 hln2 f1 f2
    have k8 := HK8.out w8 (Ext.refl _)
    dsimp only [List.append]
    go_region_held3 (fun w' => w'.cell? ⟨ga, 0, none⟩ = some (.slice (some ⟨bp, op, none⟩) 3 k1) ∧ w'.cell? ⟨ga, 1, none⟩ = some (.bool s1) ∧ w'.cell? ⟨ga, 2, none⟩ = some (.slice B1 n1 c1) ∧ w'.cell? ⟨ga, 3, none⟩ = some (.bool s2) ∧ w'.cell? ⟨ga, 4, none⟩ = some (.slice B2 n2 c2) ∧ w'.cell? ⟨gb, 0, none⟩ = some (.slice A2 3 k2) ∧ w'.cell? ⟨gb, 1, none⟩ = some (.bool s3) ∧ w'.cell? ⟨gb, 2, none⟩ = some (.slice B3 n3 c3) ∧ w'.cell? ⟨gb, 3, none⟩ = some (.bool s4) ∧ w'.cell? ⟨gb, 4, none⟩ = some (.slice B4 n4 c4) ∧ w'.cell? ⟨g7, 0, none⟩ = some (.bool s7) ∧ w'.cell? ⟨g7, 1, none⟩ = some (.slice A7 n7 c7) ∧ w'.cell? ⟨g7, 2, none⟩ = some (.bool s8) ∧ w'.cell? ⟨g7, 3, none⟩ = some (.slice A8 n8 c8) ∧ w'.cell? ⟨g9, 0, none⟩ = some (.bool s9) ∧ w'.cell? ⟨g9, 1, none⟩ = some (.slice A9 n9 c9) ∧ w'.cell? ⟨g9, 2, none⟩ = some (.bool s0) ∧ w'.cell? ⟨g9, 3, none⟩ = some (.slice A0 n0 c0) ∧ w'.cell? ⟨bp, op, none⟩ = some (.string ⟨#[104, 58, 48]⟩) ∧ w'.cell? ⟨bp, op + 9, none⟩ = some (.string ⟨#[104, 58, 51]⟩) ∧ w'.cell? ⟨bp, op + 18, none⟩ = some (.string ⟨#[104, 58, 52]⟩) ∧ w'.cell? ⟨bp, op + 9 + 2, none⟩ = some (.bool x1) ∧ w'.cell? ⟨bp, op + 9 + 3, none⟩ = some (.slice X1 y1 z1) ∧ w'.cell? ⟨bp, op + 9 + 4, none⟩ = some (.bool x2) ∧ w'.cell? ⟨bp, op + 9 + 5, none⟩ = some (.slice X2 y2 z2) ∧ w'.cell? ⟨bp, op + 18 + 2, none⟩ = some (.bool x3) ∧ w'.cell? ⟨bp, op + 18 + 3, none⟩ = some (.slice X3 y3 z3) ∧ w'.cell? ⟨bp, op + 18 + 4, none⟩ = some (.bool x4) ∧ w'.cell? ⟨bp, op + 18 + 5, none⟩ = some (.slice X4 y4 z4))
      (first | (refine HK8.out _ ?_; (repeat (first | with_reducible assumption | with_reducible exact Ext.refl _ | with_reducible refine Ext.drew ?_ | with_reducible refine Ext.drewN ?_ _ | with_reducible refine Ext.alloc ?_ _ | with_reducible refine Ext.set2 ?_ (by omega) _ _ | with_reducible refine Ext.setCell ?_ (by first | omega | (simp; done) | (simp; omega)) _ | with_reducible refine Ext.trans ?_ (by with_reducible assumption))); done))
      (first | (go_at_call 24; (with_reducible refine (O1_6.out _).mono ?_); rintro e wo ⟨so, Ao, no, co, so', Ao', no', co', rfl, hqo, heo⟩) | (go_at_call 24; (with_reducible refine (O1_12.out _).mono ?_); rintro e wo ⟨so, Ao, no, co, so', Ao', no', co', rfl, hqo, heo⟩) | (go_at_call 24; (with_reducible refine (O1_1.out _).mono ?_); rintro e wo ⟨so, Ao, no, co, so', Ao', no', co', rfl, hqo, heo⟩) | (go_at_call 24; (with_reducible refine (O4_1.out _).mono ?_); rintro e wo ⟨so, Ao, no, co, so', Ao', no', co', rfl, hqo, heo⟩) | (go_at_call 24; (with_reducible refine (O0_1.out _).mono ?_); rintro e wo ⟨so, Ao, no, co, so', Ao', no', co', rfl, hqo, heo⟩) | (go_at_call 13; (with_reducible refine (HS1.out _ _ _ _ _ ?q1 ?q2).mono ?_); (case q1 => (repeat (first | with_reducible assumption | with_reducible exact Ext.refl _ | with_reducible refine Ext.drew ?_ | with_reducible refine Ext.drewN ?_ _ | with_reducible refine Ext.alloc ?_ _ | with_reducible refine Ext.set2 ?_ (by omega) _ _ | with_reducible refine Ext.setCell ?_ (by first | omega | (simp; done) | (simp; omega)) _ | with_reducible refine Ext.trans ?_ (by with_reducible assumption)))); (case q2 => (refine IsRat.ext hqo ?_; (repeat (first | with_reducible assumption | with_reducible exact Ext.refl _ | with_reducible refine Ext.drew ?_ | with_reducible refine Ext.drewN ?_ _ | with_reducible refine Ext.alloc ?_ _ | with_reducible refine Ext.set2 ?_ (by omega) _ _ | with_reducible refine Ext.setCell ?_ (by first | omega | (simp; done) | (simp; omega)) _ | with_reducible refine Ext.trans ?_ (by with_reducible assumption))))); rintro e wn ⟨rfl, hen⟩) | (go_at_call 13; (with_reducible refine (HS2.out _ _ _ _ _ ?q1 ?q2).mono ?_); (case q1 => (repeat (first | with_reducible assumption | with_reducible exact Ext.refl _ | with_reducible refine Ext.drew ?_ | with_reducible refine Ext.drewN ?_ _ | with_reducible refine Ext.alloc ?_ _ | with_reducible refine Ext.set2 ?_ (by omega) _ _ | with_reducible refine Ext.setCell ?_ (by first | omega | (simp; done) | (simp; omega)) _ | with_reducible refine Ext.trans ?_ (by with_reducible assumption)))); (case q2 => (refine IsRat.ext hqo ?_; (repeat (first | with_reducible assumption | with_reducible exact Ext.refl _ | with_reducible refine Ext.drew ?_ | with_reducible refine Ext.drewN ?_ _ | with_reducible refine Ext.alloc ?_ _ | with_reducible refine Ext.set2 ?_ (by omega) _ _ | with_reducible refine Ext.setCell ?_ (by first | omega | (simp; done) | (simp; omega)) _ | with_reducible refine Ext.trans ?_ (by with_reducible assumption))))); rintro e wn ⟨rfl, hen⟩) | (go_at_call 13; (with_reducible refine (HS3.out _ _ _ _ _ ?q1 ?q2).mono ?_); (case q1 => (repeat (first | with_reducible assumption | with_reducible exact Ext.refl _ | with_reducible refine Ext.drew ?_ | with_reducible refine Ext.drewN ?_ _ | with_reducible refine Ext.alloc ?_ _ | with_reducible refine Ext.set2 ?_ (by omega) _ _ | with_reducible refine Ext.setCell ?_ (by first | omega | (simp; done) | (simp; omega)) _ | with_reducible refine Ext.trans ?_ (by with_reducible assumption)))); (case q2 => (refine IsRat.ext hqo ?_; (repeat (first | with_reducible assumption | with_reducible exact Ext.refl _ | with_reducible refine Ext.drew ?_ | with_reducible refine Ext.drewN ?_ _ | with_reducible refine Ext.alloc ?_ _ | with_reducible refine Ext.set2 ?_ (by omega) _ _ | with_reducible refine Ext.setCell ?_ (by first | omega | (simp; done) | (simp; omega)) _ | with_reducible refine Ext.trans ?_ (by with_reducible assumption))))); rintro e wn ⟨rfl, hen⟩) | (go_at_call 13; (with_reducible refine (HS4.out _ _ _ _ _ ?q1 ?q2).mono ?_); (case q1 => (repeat (first | with_reducible assumption | with_reducible exact Ext.refl _ | with_reducible refine Ext.drew ?_ | with_reducible refine Ext.drewN ?_ _ | with_reducible refine Ext.alloc ?_ _ | with_reducible refine Ext.set2 ?_ (by omega) _ _ | with_reducible refine Ext.setCell ?_ (by first | omega | (simp; done) | (simp; omega)) _ | with_reducible refine Ext.trans ?_ (by with_reducible assumption)))); (case q2 => (refine IsRat.ext hqo ?_; (repeat (first | with_reducible assumption | with_reducible exact Ext.refl _ | with_reducible refine Ext.drew ?_ | with_reducible refine Ext.drewN ?_ _ | with_reducible refine Ext.alloc ?_ _ | with_reducible refine Ext.set2 ?_ (by omega) _ _ | with_reducible refine Ext.setCell ?_ (by first | omega | (simp; done) | (simp; omega)) _ | with_reducible refine Ext.trans ?_ (by with_reducible assumption))))); rintro e wn ⟨rfl, hen⟩) | (go_at_call 13; (with_reducible refine (HS5.out _ _ _ _ _ ?q1 ?q2).mono ?_); (case q1 => (repeat (first | with_reducible assumption | with_reducible exact Ext.refl _ | with_reducible refine Ext.drew ?_ | with_reducible refine Ext.drewN ?_ _ | with_reducible refine Ext.alloc ?_ _ | with_reducible refine Ext.set2 ?_ (by omega) _ _ | with_reducible refine Ext.setCell ?_ (by first | omega | (simp; done) | (simp; omega)) _ | with_reducible refine Ext.trans ?_ (by with_reducible assumption)))); (case q2 => (refine IsRat.ext hqo ?_; (repeat (first | with_reducible assumption | with_reducible exact Ext.refl _ | with_reducible refine Ext.drew ?_ | with_reducible refine Ext.drewN ?_ _ | with_reducible refine Ext.alloc ?_ _ | with_reducible refine Ext.set2 ?_ (by omega) _ _ | with_reducible refine Ext.setCell ?_ (by first | omega | (simp; done) | (simp; omega)) _ | with_reducible refine Ext.trans ?_ (by with_reducible assumption))))); rintro e wn ⟨rfl, hen⟩) | (go_at_call 13; (with_reducible refine (HS6.out _ _ _ _ _ ?q1 ?q2).mono ?_); (case q1 => (repeat (first | with_reducible assumption | with_reducible exact Ext.refl _ | with_reducible refine Ext.drew ?_ | with_reducible refine Ext.drewN ?_ _ | with_reducible refine Ext.alloc ?_ _ | with_reducible refine Ext.set2 ?_ (by omega) _ _ | with_reducible refine Ext.setCell ?_ (by first | omega | (simp; done) | (simp; omega)) _ | with_reducible refine Ext.trans ?_ (by with_reducible assumption)))); (case q2 => (refine IsRat.ext hqo ?_; (repeat (first | with_reducible assumption | with_reducible exact Ext.refl _ | with_reducible refine Ext.drew ?_ | with_reducible refine Ext.drewN ?_ _ | with_reducible refine Ext.alloc ?_ _ | with_reducible refine Ext.set2 ?_ (by omega) _ _ | with_reducible refine Ext.setCell ?_ (by first | omega | (simp; done) | (simp; omega)) _ | with_reducible refine Ext.trans ?_ (by with_reducible assumption))))); rintro e wn ⟨rfl, hen⟩) | (go_at_call 15; (with_reducible refine (HSL.out _ _ ?q1 ?q2).mono ?_); (case q1 => (repeat (first | with_reducible assumption | with_reducible exact Ext.refl _ | with_reducible refine Ext.drew ?_ | with_reducible refine Ext.drewN ?_ _ | with_reducible refine Ext.alloc ?_ _ | with_reducible refine Ext.set2 ?_ (by omega) _ _ | with_reducible refine Ext.setCell ?_ (by first | omega | (simp; done) | (simp; omega)) _ | with_reducible refine Ext.trans ?_ (by with_reducible assumption)))); (case q2 => (refine strs3 ?_; (repeat (first | with_reducible assumption | with_reducible exact Blk.newAt _ _ _ (by first | rfl | (simp; done) | (simp; omega)) | with_reducible refine Blk.alloc ?_ _ | with_reducible refine Blk.set2 (x := .bool false) (y := .slice none 0 0) ?_ _ _ | with_reducible refine Blk.far2 ?_ (by omega) _ _ | with_reducible refine Blk.drew ?_ | with_reducible refine Blk.ext ?_ (by with_reducible assumption))))); rintro e wn ⟨rfl, hen⟩) | (go_at_call 18; (with_reducible refine (HPT.out _).mono ?_); rintro e wp ⟨sv, hs, rfl, hpp, hSp, hep⟩) | (go_at_call 25; (with_reducible refine (HHO.out _ _ hs ?q1 hpp ?q2).mono ?_); (case q1 => (repeat (first | with_reducible assumption | with_reducible exact Ext.refl _ | with_reducible refine Ext.drew ?_ | with_reducible refine Ext.drewN ?_ _ | with_reducible refine Ext.alloc ?_ _ | with_reducible refine Ext.set2 ?_ (by omega) _ _ | with_reducible refine Ext.setCell ?_ (by first | omega | (simp; done) | (simp; omega)) _ | with_reducible refine Ext.trans ?_ (by with_reducible assumption)))); (case q2 => (refine IsShelf.ext hSp ?_; (repeat (first | with_reducible assumption | with_reducible exact Ext.refl _ | with_reducible refine Ext.drew ?_ | with_reducible refine Ext.drewN ?_ _ | with_reducible refine Ext.alloc ?_ _ | with_reducible refine Ext.set2 ?_ (by omega) _ _ | with_reducible refine Ext.setCell ?_ (by first | omega | (simp; done) | (simp; omega)) _ | with_reducible refine Ext.trans ?_ (by with_reducible assumption))))); rintro e wn ⟨rfl, hen⟩))
    go_wp2
    go_ret
    exact ⟨rfl, hEw.trans (hE6.trans (by (repeat (first | with_reducible assumption | with_reducible exact Ext.refl _ | with_reducible refine Ext.drew ?_ | with_reducible refine Ext.drewN ?_ _ | with_reducible refine Ext.alloc ?_ _ | with_reducible refine Ext.set2 ?_ (by omega) _ _ | with_reducible refine Ext.setCell ?_ (by first | omega | (simp; done) | (simp; omega)) _ | with_reducible refine Ext.trans ?_ (by with_reducible assumption)))))⟩

end Go.Proofs.YtekipapkcgoieaaGreatDoor
