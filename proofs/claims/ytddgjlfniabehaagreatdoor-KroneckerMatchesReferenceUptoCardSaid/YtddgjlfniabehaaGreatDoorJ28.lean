/-
  The law that audits, sums and missing names agree with the reference: what it computes.
-/
import Derived.Test.YtddgjlfniabehaaGreatDoorJ25
import Derived.Test.YtddgjlfniabehaaGreatDoorJ26
import Derived.Test.YtddgjlfniabehaaGreatDoorJ27
import Derived.Test.YtddgjlfniabehaaGreatDoorJ22
import Derived.Test.YtddgjlfniabehaaGreatDoorJ13
set_option linter.unusedVariables false
set_option linter.unusedSimpArgs false

/- The law that audits, sums and missing names agree with the reference: what it computes. -/
namespace Go.Proofs.YtddgjlfniabehaaGreatDoor
open Go.RowKit
attribute [local go_sem ↓] Go.wp_at_zero Go.wp_at_succ

/-- The cells of an audit that both packages can sum. -/
def AudOk (w : World) (l : List Value) (ps : List PartD) (tt : Rat) : Prop :=
  ∃ (A0 : Option Addr) (n0 : Nat) (s1 : Bool) (A1 : Option Addr) (n1 c1 : Nat) (s2 : Bool) (A2 : Option Addr) (n2 c2 : Nat), l = [.slice A0 ps.length n0, .bool s1, .slice A1 n1 c1, .bool s2, .slice A2 n2 c2] ∧ IsParts w (.slice A0 ps.length n0) ps ∧ IsRat w (.bool s1) (.slice A1 n1 c1) (.bool s2) (.slice A2 n2 c2) tt
structure AudSm (ps : List PartD) (tt : Rat) : Prop where
  len : ps.length ≤ 5000
  tw : ∀ p ∈ ps, PartTw p
  short : ∀ p ∈ ps, p.name.length ≤ 1000
  num : tt.num.natAbs ≤ 1000000000
  den : tt.den ≤ 1000
theorem AudOk.ext {w w' : World} {l : List Value} {ps : List PartD} {tt : Rat} (h : AudOk w l ps tt) (k : Ext w w') : AudOk w' l ps tt := by
  obtain ⟨A0, n0, s1, A1, n1, c1, s2, A2, n2, c2, e, h1, h2⟩ := h
  exact ⟨A0, n0, s1, A1, n1, c1, s2, A2, n2, c2, e, h1.ext k, h2.ext k⟩
theorem aud_sm {k : Nat} (h0 : 1 ≤ k) (h1 : k ≤ 200) : AudSm (partsR k (4 * k + 1)) ((tot k k : Int) : Rat) := by
  have ht0 := tot_bd (n := (k : Int)) (by omega) k (by omega)
  refine ⟨by have := partsR_len k (4 * k + 1); omega, fun q hq => parts_tw hq, fun q hq => parts_short (by omega) hq, by rw [Rat.num_intCast]; omega, by rw [Rat.den_intCast]; omega⟩
theorem any_sm {qs : List Q4} (hq : ∀ q ∈ qs, q.ok) {t : Int} (h1 : -32768 ≤ t) (h2 : t ≤ 32767) : AudSm (anyParts qs) (mkRat t 12) := by
  have htw : Tw 32768 (mkRat t 12) := ⟨t, rfl, by omega⟩
  refine ⟨?_, fun p hp => ?_, fun p hp => ?_, Nat.le_trans htw.num (by decide), Nat.le_trans htw.den (by decide)⟩
  · unfold anyParts
    rw [List.length_map, List.length_take]
    omega
  · obtain ⟨q, hq2, rfl⟩ := List.mem_map.1 hp
    exact anyPart_tw (hq q (List.mem_of_mem_take hq2))
  · obtain ⟨q, hq2, rfl⟩ := List.mem_map.1 hp
    have := nameOf_len (q.a % 16).toNat (by omega)
    show (nameOf (q.a % 16).toNat).length ≤ 1000
    omega

/-- A number that the law audits: what both audits give. -/
structure Aud2 (n : Int) (ps : List PartD) (x y ec : Int) : Prop where
  len : ps.length ≤ 5000
  tw : ∀ p ∈ ps, PartTw p
  nx : x.natAbs ≤ 1000000000
  ny : y.natAbs ≤ 1000000000
  ok : (ec = 0 ∧ ∃ tt : Rat, x = tt.num ∧ y = (tt.den : Int) ∧ AudSm ps tt) ∨ ec = 1
  k : ∀ w, Tab w → Calls Tryz.prog 11 #[.int .i64 n] w fun e w' => ∃ (v : Value) (s1 : Bool) (A1 : Option Addr) (n1 c1 : Nat) (s2 : Bool) (A2 : Option Addr) (n2 c2 : Nat), e = .returned (.tuple #[.agg #[v, .bool s1, .slice A1 n1 c1, .bool s2, .slice A2 n2 c2], .int .i64 ec]) ∧ IsParts w' v ps ∧ IsInt w' (.bool s1) (.slice A1 n1 c1) x ∧ IsInt w' (.bool s2) (.slice A2 n2 c2) y ∧ Ext w w'
  r : ∀ w, Calls Tryz.prog 12 #[.int .i64 n] w fun e w' => ∃ (v : Value) (s1 : Bool) (A1 : Option Addr) (n1 c1 : Nat) (s2 : Bool) (A2 : Option Addr) (n2 c2 : Nat), e = .returned (.tuple #[.agg #[v, .bool s1, .slice A1 n1 c1, .bool s2, .slice A2 n2 c2], .int .i64 ec]) ∧ IsParts w' v ps ∧ IsInt w' (.bool s1) (.slice A1 n1 c1) x ∧ IsInt w' (.bool s2) (.slice A2 n2 c2) y ∧ Ext w w'
theorem aud2 (n : Int) (h : n < 1 ∨ 1024 < n ∨ (1 ≤ n ∧ n ≤ 200)) : ∃ ps x y ec, Aud2 n ps x y ec := by
  by_cases hin : 1 ≤ n ∧ n ≤ 200
  · obtain ⟨k, rfl⟩ := Int.eq_ofNat_of_zero_le (show 0 ≤ n by omega)
    have hk := aud_sm (k := k) (by omega) (by omega)
    refine ⟨partsR k (4 * k + 1), ((tot k k : Int) : Rat).num, (((tot k k : Int) : Rat).den : Int), 0, hk.len, hk.tw, hk.num, by have := hk.den; omega, .inl ⟨rfl, _, rfl, rfl, hk⟩, fun w ht => ?_, fun w => ?_⟩
    · refine (AuditK_R k w (by omega) (by omega) ht).mono ?_
      rintro e w' ⟨v, a, b, c, d, rfl, hP, hQ, hE⟩
      obtain ⟨s1, A1, n1, c1, s2, A2, n2, c2, rfl, rfl, rfl, rfl⟩ := hQ.form
      exact ⟨v, s1, A1, n1, c1, s2, A2, n2, c2, rfl, hP, hQ.1, hQ.2, hE⟩
    · refine (Audit38_pos k w (by omega) (by omega)).mono ?_
      rintro e w' ⟨v, a, b, c, d, rfl, hP, hQ, hE⟩
      obtain ⟨s1, A1, n1, c1, s2, A2, n2, c2, rfl, rfl, rfl, rfl⟩ := hQ.form
      exact ⟨v, s1, A1, n1, c1, s2, A2, n2, c2, rfl, hP, hQ.1, hQ.2, hE⟩
  · have ho : n < 1 ∨ 1024 < n := by omega
    refine ⟨[], 0, 0, 1, by simp, (fun p hp => by cases hp), by simp, by simp, .inr rfl, fun w ht => ?_, fun w => ?_⟩
    · refine (AuditK_out n w ho).mono ?_
      rintro e w' ⟨rfl, hE⟩
      exact ⟨_, _, _, _, _, _, _, _, _, rfl, IsParts.nil _, IsInt.zero _, IsInt.zero _, hE⟩
    · refine (Audit38_out n w ho).mono ?_
      rintro e w' ⟨rfl, hE⟩
      exact ⟨_, _, _, _, _, _, _, _, _, rfl, IsParts.nil _, IsInt.zero _, IsInt.zero _, hE⟩

theorem Blk.far5 {w : World} {g k : Nat} {t : TypeId} {cs : Array Value} (h : Blk w g t cs) (hne : g ≠ k) (u v x y z : Value) : Blk (((((w.setCell ⟨k, 0, none⟩ u).setCell ⟨k, 1, none⟩ v).setCell ⟨k, 2, none⟩ x).setCell ⟨k, 3, none⟩ y).setCell ⟨k, 4, none⟩ z) g t cs :=
  ((((h.far (p := ⟨k, 0, none⟩) hne u).far (p := ⟨k, 1, none⟩) hne v).far (p := ⟨k, 2, none⟩) hne x).far (p := ⟨k, 3, none⟩) hne y).far (p := ⟨k, 4, none⟩) hne z
theorem Blk.set5 {w : World} {g : Nat} {t : TypeId} {z0 z1 z2 z3 z4 : Value} (h : Blk w g t #[z0, z1, z2, z3, z4]) (u v x y z : Value) : Blk (((((w.setCell ⟨g, 0, none⟩ u).setCell ⟨g, 1, none⟩ v).setCell ⟨g, 2, none⟩ x).setCell ⟨g, 3, none⟩ y).setCell ⟨g, 4, none⟩ z) g t #[u, v, x, y, z] := by
  have h0 : Blk (w.setCell ⟨g, 0, none⟩ u) g t #[u, z1, z2, z3, z4] := h.set_ 0 u
  have h1 : Blk ((w.setCell ⟨g, 0, none⟩ u).setCell ⟨g, 1, none⟩ v) g t #[u, v, z2, z3, z4] := h0.set_ 1 v
  have h2 : Blk (((w.setCell ⟨g, 0, none⟩ u).setCell ⟨g, 1, none⟩ v).setCell ⟨g, 2, none⟩ x) g t #[u, v, x, z3, z4] := h1.set_ 2 x
  have h3 : Blk ((((w.setCell ⟨g, 0, none⟩ u).setCell ⟨g, 1, none⟩ v).setCell ⟨g, 2, none⟩ x).setCell ⟨g, 3, none⟩ y) g t #[u, v, x, y, z4] := h2.set_ 3 y
  exact h3.set_ 4 z

/-- Three audits in a row. -/
def Auds3 (w : World) (g o : Nat) : Prop := ∀ i : Nat, i < 3 → ∃ (ps : List PartD) (tt : Rat) (l : List Value), AudSm ps tt ∧ AudOk w l ps tt ∧ ∀ w', Ext w w' → w'.rangeAt g (o + i * 5) l
theorem auds3_of {w : World} {g : Nat} {t : TypeId} {l1 l2 l3 : List Value} {p1 p2 p3 : List PartD} {t1 t2 t3 : Rat} (h : Blk w g t (l1 ++ l2 ++ l3).toArray) (a1 : AudOk w l1 p1 t1) (a2 : AudOk w l2 p2 t2) (a3 : AudOk w l3 p3 t3) (b1 : AudSm p1 t1) (b2 : AudSm p2 t2) (b3 : AudSm p3 t3) : Auds3 w g 0 := by
  have c1 := a1
  have c2 := a2
  have c3 := a3
  obtain ⟨_, _, _, _, _, _, _, _, _, _, rfl, _, _⟩ := c1
  obtain ⟨_, _, _, _, _, _, _, _, _, _, rfl, _, _⟩ := c2
  obtain ⟨_, _, _, _, _, _, _, _, _, _, rfl, _, _⟩ := c3
  intro i hi
  match i, hi with
  | 0, _ =>
    refine ⟨p1, t1, _, b1, a1, fun w' hw j v hv => ?_⟩
    have hb := h.ext hw
    match j with
    | 0 => exact (hb.cell 0).trans (by simpa using hv)
    | 1 => exact (hb.cell 1).trans (by simpa using hv)
    | 2 => exact (hb.cell 2).trans (by simpa using hv)
    | 3 => exact (hb.cell 3).trans (by simpa using hv)
    | 4 => exact (hb.cell 4).trans (by simpa using hv)
    | j + 5 => simp at hv
  | 1, _ =>
    refine ⟨p2, t2, _, b2, a2, fun w' hw j v hv => ?_⟩
    have hb := h.ext hw
    match j with
    | 0 => exact (hb.cell 5).trans (by simpa using hv)
    | 1 => exact (hb.cell 6).trans (by simpa using hv)
    | 2 => exact (hb.cell 7).trans (by simpa using hv)
    | 3 => exact (hb.cell 8).trans (by simpa using hv)
    | 4 => exact (hb.cell 9).trans (by simpa using hv)
    | j + 5 => simp at hv
  | 2, _ =>
    refine ⟨p3, t3, _, b3, a3, fun w' hw j v hv => ?_⟩
    have hb := h.ext hw
    match j with
    | 0 => exact (hb.cell 10).trans (by simpa using hv)
    | 1 => exact (hb.cell 11).trans (by simpa using hv)
    | 2 => exact (hb.cell 12).trans (by simpa using hv)
    | 3 => exact (hb.cell 13).trans (by simpa using hv)
    | 4 => exact (hb.cell 14).trans (by simpa using hv)
    | j + 5 => simp at hv

set_option maxRecDepth 100000 in
set_option maxHeartbeats 8000000 in
theorem match_walk (hex : ∀ w, Tab w → Calls Tryz.prog 8 #[] w fun e w' => e = .returned (.bool true) ∧ Ext w w')
    (rn : Int) (ov bv yv lv : Value) (os bs ys : List Int) (qs : List Q4) (n : Int) (w : World) (ht : Tab w) (h1 : 0 ≤ rn) (h2 : rn ≤ 255) (hn1 : -9223372036854775808 ≤ n) (hn2 : n ≤ 9223372036854775807) (hlo : os.length ≤ 1100000) (hlb : bs.length ≤ 1100000) (hly : ys.length ≤ 1100000) (hlq : qs.length ≤ 1100000)
    (ho : ∀ b ∈ os, 0 ≤ b ∧ b ≤ 255) (hb : ∀ b ∈ bs, -128 ≤ b ∧ b ≤ 127) (hy : ∀ b ∈ ys, 0 ≤ b ∧ b ≤ 255) (hq : ∀ q ∈ qs, q.ok) (ko : ArgInts .u8 w ov os) (kb : ArgInts .i8 w bv bs) (ky : ArgInts .u8 w yv ys) (kq : ArgQuads w lv qs) :
    Calls Tryz.prog 3 #[.agg #[.int .u8 rn, ov, bv, yv], lv, .int .i64 n] w fun e w' => e = .returned (.bool true) ∧ Ext w w' := by
  obtain ⟨Ao, co, rfl⟩ := ko.shape
  obtain ⟨Ab, cb, rfl⟩ := kb.shape
  obtain ⟨Ay, cy, rfl⟩ := ky.shape
  obtain ⟨Aq, cq, rfl⟩ := kq.shape
  obtain ⟨k, hk, hk1, hk2⟩ : ∃ k : Nat, 1 + rn % 60 = (k : Int) ∧ 1 ≤ k ∧ k ≤ 60 := ⟨(1 + rn % 60).toNat, by omega, by omega, by omega⟩
  have HNUM := Lib.hid (fun (w' : World) => (show Calls Tryz.prog 13 #[.agg #[.int .u8 rn, .slice Ao os.length co, .slice Ab bs.length cb, .slice Ay ys.length cy]] w' fun e w'' => e = .returned (.int .i64 (k : Int)) ∧ Ext w' w'' by rw [← hk]; exact Number38_any rn _ _ _ _ _ _ _ _ _ w' h1 h2))
  have HMADE := Lib.hid (fun (w' : World) (h : Ext w w') => Made38_any rn _ _ _ os bs ys w' h1 h2 hlo hlb hly ho hb hy (ko.ext h) (kb.ext h) (ky.ext h))
  have HGR := Lib.hid (fun (w' : World) (h : Ext w w') => granted_any _ os w' (by omega) ho (ko.ext h))
  have HOWN := Lib.hid (fun (w' : World) (h : Tab w') => AuditK_R k w' hk1 (by omega) h)
  have HSMO := Lib.hid (aud_sm (k := k) hk1 (by omega))
  obtain ⟨n', hn', hn3, hn4, hn5⟩ : ∃ n' : Int, (if 200 < n ∧ n ≤ 1024 then n.tmod 200 else n) = n' ∧ (n' < 1 ∨ 1024 < n' ∨ (1 ≤ n' ∧ n' ≤ 200)) ∧ -9223372036854775808 ≤ n' ∧ n' ≤ 9223372036854775807 := by
    refine ⟨_, rfl, ?_, ?_, ?_⟩ <;> split <;> (try rw [Int.tmod_eq_emod_of_nonneg (by omega)]) <;> omega
  obtain ⟨t16, hT⟩ : ∃ t16 : Int, n'.tmod 1000 = t16 := ⟨_, rfl⟩
  have ht1 : -1000 ≤ t16 ∧ t16 ≤ 1000 := by
    have h3 := Int.natAbs_tmod n' 1000
    rw [hT] at h3
    simp at h3
    omega
  have HANY := Lib.hid (fun (w' : World) (h : Ext w w') => Any38_any _ qs t16 w' (by omega) (by omega) hq (kq.ext h) (by omega))
  have HSMA := Lib.hid (any_sm hq (t := t16) (by omega) (by omega))
  obtain ⟨psb, xb, yb, ec, hAud⟩ := aud2 n' hn3
  have HAUD := Lib.hid hAud
  have HN := Lib.hid hn'
  have HT16 := Lib.hid hT
  have HEX := Lib.hid hex
  have HTAB := Lib.hid ht
  have hlg : (grantedOf os).length = os.length := by simp [grantedOf]
  have HLG := Lib.hid hlg
  clear ht ho hb hy hq ko kb ky kq hk hn' hT hAud hex hlg hn3
  generalize partsR k (4 * k + 1) = pso at *
  generalize ((tot k k : Int) : Rat) = tto at *
  generalize grantedOf os = gs at *
  generalize anyParts qs = psa at *
  generalize mkRat t16 12 = tta at *
  go_enter Tryz.func3, Tryz.ntmps3
  go_upto_region 1 with fail
  obtain ⟨W, hW⟩ : ∃ W : World, W = w.alloc (.cells #[.int .u8 rn, .slice Ao os.length co, .slice Ab bs.length cb, .slice Ay ys.length cy] 25) := ⟨_, rfl⟩
  rw [← hW]
  have hE : Ext w W := by rw [hW]; exact (Ext.refl w).alloc _
  have HBX : Hid (Blk W w.heap.size 25 #[.int .u8 rn, .slice Ao os.length co, .slice Ab bs.length cb, .slice Ay ys.length cy]) := by rw [hW]; exact Lib.hid (Blk.newAt _ _ _ rfl)
  clear hW
  generalize w.heap.size = gx at *
  go_wp2_with fail
  refine (HEX.out W (HTAB.out.ext hE)).mono ?_
  rintro e w1 ⟨rfl, hE1⟩
  have hE01 := hE.trans hE1
  have HXX := Lib.hid (fun (w' : World) (h : Ext w1 w') => (HBX.out.ext (hE1.trans h)).four)
  have x4 := HXX.out w1 (Ext.refl _)
  go_upto_region 4 with fail
  go_cut [8, 9] (fun p q wx => ∃ (g : Nat) (A : Option Addr) (c : Nat) (hs : List HeldD) (B : Option Addr) (d : Nat), p = .pointer (some ⟨g, 0, none⟩) ∧ q = .slice B gs.length d ∧ Blk wx g 30 #[.slice A hs.length c] ∧ (∀ h ∈ hs, HeldOk h ∧ h.vals.length = 1) ∧ hs.length ≤ 241 ∧ IsShelf wx (.slice A hs.length c) hs ∧ IsNums wx (.slice B gs.length d) gs ∧ Ext w1 wx)
  case first =>
    go_region_held3 (fun w' => w'.cell? ⟨gx, 0, none⟩ = some (.int .u8 rn) ∧ w'.cell? ⟨gx, 1, none⟩ = some (.slice Ao os.length co) ∧ w'.cell? ⟨gx, 2, none⟩ = some (.slice Ab bs.length cb) ∧ w'.cell? ⟨gx, 3, none⟩ = some (.slice Ay ys.length cy))
      (first | (refine (fun h => ⟨(HXX.out _ h).1, (HXX.out _ h).2.1, (HXX.out _ h).2.2.1, (HXX.out _ h).2.2.2.1⟩) ?_; (repeat (first | with_reducible assumption | with_reducible exact Ext.refl _ | with_reducible refine Ext.drew ?_ | with_reducible refine Ext.drewN ?_ _ | with_reducible refine Ext.alloc ?_ _ | with_reducible refine Ext.set2 ?_ (by omega) _ _ | with_reducible refine Ext.setCell ?_ (by first | omega | (simp; done) | (simp; omega)) _ | with_reducible refine Ext.trans ?_ (by with_reducible assumption))); done))
      (first | (go_at_call 9; (with_reducible refine (HMADE.out _ ?q1).mono ?_); (case q1 => (refine hE01.trans ?_; (repeat (first | with_reducible assumption | with_reducible exact Ext.refl _ | with_reducible refine Ext.drew ?_ | with_reducible refine Ext.drewN ?_ _ | with_reducible refine Ext.alloc ?_ _ | with_reducible refine Ext.set2 ?_ (by omega) _ _ | with_reducible refine Ext.setCell ?_ (by first | omega | (simp; done) | (simp; omega)) _ | with_reducible refine Ext.trans ?_ (by with_reducible assumption))))); rintro e w2 ⟨v2, hs, rfl, hok, hhl, hS2, hE2⟩; have hs2 := (show Ext w1 w2 by (repeat (first | with_reducible assumption | with_reducible exact Ext.refl _ | with_reducible refine Ext.drew ?_ | with_reducible refine Ext.drewN ?_ _ | with_reducible refine Ext.alloc ?_ _ | with_reducible refine Ext.set2 ?_ (by omega) _ _ | with_reducible refine Ext.setCell ?_ (by first | omega | (simp; done) | (simp; omega)) _ | with_reducible refine Ext.trans ?_ (by with_reducible assumption)))).size'; obtain ⟨A2, c2, rfl⟩ := hS2.shape; (try ((refine mp_of (p := Blk w2 w1.heap.size 30 #[.slice none 0 0]) ?_ ?_); (focus (refine Blk.ext ?_ hE2; (repeat (first | with_reducible assumption | with_reducible exact Blk.newAt _ _ _ (by first | rfl | (simp; done) | (simp; omega)) | with_reducible refine Blk.alloc ?_ _ | with_reducible refine Blk.set2 (x := .bool false) (y := .slice none 0 0) ?_ _ _ | with_reducible refine Blk.far2 ?_ (by omega) _ _ | with_reducible refine Blk.drew ?_ | with_reducible refine Blk.ext ?_ (by with_reducible assumption))); done)); intro hb2; have nb2 := And.intro (hb2.cell 0) (And.intro (hb2.frozen 0) hb2.lt)))) | (go_at_call 10; (with_reducible refine (HGR.out _ ?q1).mono ?_); (case q1 => (refine hE01.trans ?_; (repeat (first | with_reducible assumption | with_reducible exact Ext.refl _ | with_reducible refine Ext.drew ?_ | with_reducible refine Ext.drewN ?_ _ | with_reducible refine Ext.alloc ?_ _ | with_reducible refine Ext.set2 ?_ (by omega) _ _ | with_reducible refine Ext.setCell ?_ (by first | omega | (simp; done) | (simp; omega)) _ | with_reducible refine Ext.trans ?_ (by with_reducible assumption))))); rintro e w3 ⟨v3, rfl, hG3, hE3⟩; have hs3 := (show Ext w1 w3 by (repeat (first | with_reducible assumption | with_reducible exact Ext.refl _ | with_reducible refine Ext.drew ?_ | with_reducible refine Ext.drewN ?_ _ | with_reducible refine Ext.alloc ?_ _ | with_reducible refine Ext.set2 ?_ (by omega) _ _ | with_reducible refine Ext.setCell ?_ (by first | omega | (simp; done) | (simp; omega)) _ | with_reducible refine Ext.trans ?_ (by with_reducible assumption)))).size'; have hN3 := OwnNums.nums hG3; clear hG3; obtain ⟨B3, d3, rfl⟩ := IsNums.shape hN3; (try ((refine mp_of (p := Blk w3 w1.heap.size 30 #[.slice none 0 0]) ?_ ?_); (focus (refine Blk.ext ?_ hE3; (repeat (first | with_reducible assumption | with_reducible exact Blk.newAt _ _ _ (by first | rfl | (simp; done) | (simp; omega)) | with_reducible refine Blk.alloc ?_ _ | with_reducible refine Blk.set2 (x := .bool false) (y := .slice none 0 0) ?_ _ _ | with_reducible refine Blk.far2 ?_ (by omega) _ _ | with_reducible refine Blk.drew ?_ | with_reducible refine Blk.ext ?_ (by with_reducible assumption))); done)); intro hb3; have nb3 := And.intro (hb3.cell 0) (And.intro (hb3.frozen 0) hb3.lt))); (try ((refine mp_of (p := Blk w3 w2.heap.size 30 #[.slice none 0 0]) ?_ ?_); (focus (refine Blk.ext ?_ hE3; (repeat (first | with_reducible assumption | with_reducible exact Blk.newAt _ _ _ (by first | rfl | (simp; done) | (simp; omega)) | with_reducible refine Blk.alloc ?_ _ | with_reducible refine Blk.set2 (x := .bool false) (y := .slice none 0 0) ?_ _ _ | with_reducible refine Blk.far2 ?_ (by omega) _ _ | with_reducible refine Blk.drew ?_ | with_reducible refine Blk.ext ?_ (by with_reducible assumption))); done)); intro hc3; have nc3 := And.intro (hc3.cell 0) (And.intro (hc3.frozen 0) hc3.lt)))))
    all_goals
      go_wp2_with fail
      go_meet
      have hE23 : Ext w2 w3 := by (repeat (first | with_reducible assumption | with_reducible exact Ext.refl _ | with_reducible refine Ext.drew ?_ | with_reducible refine Ext.drewN ?_ _ | with_reducible refine Ext.alloc ?_ _ | with_reducible refine Ext.set2 ?_ (by omega) _ _ | with_reducible refine Ext.setCell ?_ (by first | omega | (simp; done) | (simp; omega)) _ | with_reducible refine Ext.trans ?_ (by with_reducible assumption)))
      have hE13 : Ext w1 w3 := by (repeat (first | with_reducible assumption | with_reducible exact Ext.refl _ | with_reducible refine Ext.drew ?_ | with_reducible refine Ext.drewN ?_ _ | with_reducible refine Ext.alloc ?_ _ | with_reducible refine Ext.set2 ?_ (by omega) _ _ | with_reducible refine Ext.setCell ?_ (by first | omega | (simp; done) | (simp; omega)) _ | with_reducible refine Ext.trans ?_ (by with_reducible assumption)))
      have hS3 := hS2.ext hE23
      first
        | exact ⟨_, A2, c2, hs, B3, d3, rfl, rfl, Blk.newAt _ _ _ rfl, hok, hhl, hS3.ext ((Ext.refl _).alloc _), IsNums.ext hN3 ((Ext.refl _).alloc _), hE13.alloc _⟩
        | exact ⟨_, A2, c2, hs, B3, d3, rfl, rfl, hc3.set_ 0 _, hok, hhl, hS3.keep (ts := [103, 37, 136, 3]) ((KeepT.refl _ _).set (p := ⟨w2.heap.size, 0, none⟩) hc3.type (by decide) _) (fun _ h => h), RowsOf.keep (ts := [3]) hN3 ((KeepT.refl _ _).set (p := ⟨w2.heap.size, 0, none⟩) hc3.type (by decide) _) (by decide), hE13.setCell (p := ⟨w2.heap.size, 0, none⟩) hs2 _⟩
        | exact ⟨_, A2, c2, hs, B3, d3, rfl, rfl, hb3.set_ 0 _, hok, hhl, hS3.keep (ts := [103, 37, 136, 3]) ((KeepT.refl _ _).set (p := ⟨w1.heap.size, 0, none⟩) hb3.type (by decide) _) (fun _ h => h), RowsOf.keep (ts := [3]) hN3 ((KeepT.refl _ _).set (p := ⟨w1.heap.size, 0, none⟩) hb3.type (by decide) _) (by decide), hE13.setCell (p := ⟨w1.heap.size, 0, none⟩) (Nat.le_refl _) _⟩
  case rest =>
    obtain ⟨g8, A8, c8, hs, B9, d9, rfl, rfl, hB8, hok, hhl, hS, hN, hE2⟩ := hcut
    obtain ⟨W2, rfl⟩ : ∃ W2 : World, W2 = wc := ⟨_, rfl⟩
    have HB8 := Lib.hid hB8
    have HOK := Lib.hid (fun h hh => (hok h hh).1)
    have HS := Lib.hid hS
    have HNG := Lib.hid hN
    have hEw := hE01.trans hE2
    have HBX2 := Lib.hid (HBX.out.ext (hE1.trans hE2))
    clear hB8 hok hS hN x4 hE1 hE2 hE01 hE HXX HBX HMADE HGR HEX
    go_upto_region 5 with fail
    go_cut [34] (fun b wx => b = .bool (decide (200 < n ∧ n ≤ 1024)) ∧ wx = W2)
    case first =>
      by_cases c1 : 200 < n
      · by_cases c2 : n ≤ 1024
        · have hd : decide (200 < n ∧ n ≤ 1024) = true := decide_eq_true ⟨c1, c2⟩
          go_wp2_with fail
          go_meet
          exact ⟨by rw [hd], rfl⟩
        · have hd : decide (200 < n ∧ n ≤ 1024) = false := decide_eq_false (fun h => c2 h.2)
          go_wp2_with fail
          go_meet
          exact ⟨by rw [hd], rfl⟩
      · have hd : decide (200 < n ∧ n ≤ 1024) = false := decide_eq_false (fun h => c1 h.1)
        go_wp2_with fail
        go_meet
        exact ⟨by rw [hd], rfl⟩
    case rest =>
      obtain ⟨rfl, rfl⟩ := hcut
      go_upto_if 34 with fail
      go_cut [2] (fun v wx => v = .int .i64 n' ∧ wx = wc)
      case first =>
        by_cases hd : 200 < n ∧ n ≤ 1024
        · have hv := HN.out
          rw [if_pos hd] at hv
          rw [decide_eq_true hd]
          have hw : IntKind.i64.wrap n' = n' := IntWalk.i64_in _ (by omega)
          have hw2 : IntKind.i64.wrap (n.tmod 200) = n' := by rw [hv]; exact hw
          go_wp2_with fail
          go_meet
          exact ⟨rfl, rfl⟩
        · have hv := HN.out
          rw [if_neg hd] at hv
          rw [decide_eq_false hd]
          subst hv
          go_wp2_with fail
          go_meet
          exact ⟨rfl, rfl⟩
      case rest =>
        obtain ⟨rfl, rfl⟩ := hcut
        go_wp2_with fail
        refine (HAUD.out.k _ (HTAB.out.ext hEw)).mono ?_
        rintro e w3 ⟨v3, s1, A1, n1, c1, s2, A2, n2, c2, rfl, hP3, hX3, hY3, hE3⟩
        obtain ⟨A0, n0, rfl⟩ := hP3.shape
        go_upto_region 8 with fail
        obtain ⟨w4, hw4⟩ : ∃ w4 : World, w4 = w3.alloc (.cells #[.slice A0 psb.length n0, .bool s1, .slice A1 n1 c1, .bool s2, .slice A2 n2 c2] 41) := ⟨_, rfl⟩
        rw [← hw4]
        have hE34 : Ext w3 w4 := by rw [hw4]; exact (Ext.refl _).alloc _
        have HBA : Hid (Blk w4 w3.heap.size 41 #[.slice A0 psb.length n0, .bool s1, .slice A1 n1 c1, .bool s2, .slice A2 n2 c2]) := by rw [hw4]; exact Lib.hid (Blk.newAt _ _ _ rfl)
        have HPA := Lib.hid (hP3.ext hE34)
        have HXA := Lib.hid (And.intro (hX3.ext hE34) (hY3.ext hE34))
        have HE4 := Lib.hid (hE3.trans hE34)
        clear hw4 hP3 hX3 hY3 hE34 hE3
        generalize w3.heap.size = ga at *
        go_wp2_with fail
        refine (HAUD.out.r w4).mono ?_
        rintro e w5 ⟨v5, s3, A3, n3, c3, s4, A4, n4, c4, rfl, hP5, hX5, hY5, hE5⟩
        obtain ⟨A9, n9, rfl⟩ := hP5.shape
        go_upto_region 9 with fail
        obtain ⟨w6, hw6⟩ : ∃ w6 : World, w6 = w5.alloc (.cells #[.slice A9 psb.length n9, .bool s3, .slice A3 n3 c3, .bool s4, .slice A4 n4 c4] 41) := ⟨_, rfl⟩
        rw [← hw6]
        have hE56 : Ext w5 w6 := by rw [hw6]; exact (Ext.refl _).alloc _
        have HBB : Hid (Blk w6 w5.heap.size 41 #[.slice A9 psb.length n9, .bool s3, .slice A3 n3 c3, .bool s4, .slice A4 n4 c4]) := by rw [hw6]; exact Lib.hid (Blk.newAt _ _ _ rfl)
        have HPB := Lib.hid (hP5.ext hE56)
        have HXB := Lib.hid (And.intro (hX5.ext hE56) (hY5.ext hE56))
        have HE46 := Lib.hid (hE5.trans hE56)
        have HEc6 := Lib.hid (HE4.out.trans HE46.out)
        have hg8 : g8 < w5.heap.size := Nat.lt_of_lt_of_le HB8.out.lt (HE4.out.trans hE5).size'
        have hgw : w.heap.size ≤ w5.heap.size := (hEw.trans (HE4.out.trans hE5)).size'
        clear hw6 hP5 hX5 hY5 hE56 hE5
        generalize w5.heap.size = gb at *
        have x4 := (HBX2.out.ext HEc6.out).four
        go_wp2_with fail
        refine (HNUM.out w6).mono ?_
        rintro e w7 ⟨rfl, hE7⟩
        clear x4
        go_wp2_with fail
        refine (HOWN.out w7 (HTAB.out.ext (hEw.trans (HEc6.out.trans hE7)))).mono ?_
        rintro e w8 ⟨v8, a8, b8, c9, d8, rfl, hP8, hQ8, hE8⟩
        obtain ⟨Ac, nc, rfl⟩ := hP8.shape
        obtain ⟨s5, A5, n5, c5, s6, A6, n6, c6, rfl, rfl, rfl, rfl⟩ := hQ8.form
        go_upto_region 10 with fail
        obtain ⟨w9, hw9⟩ : ∃ w9 : World, w9 = w8.alloc (.cells #[.slice Ac pso.length nc, .bool s5, .slice A5 n5 c5, .bool s6, .slice A6 n6 c6] 41) := ⟨_, rfl⟩
        rw [← hw9]
        have hE89 : Ext w8 w9 := by rw [hw9]; exact (Ext.refl _).alloc _
        have hE69 : Ext w6 w9 := (hE7.trans hE8).trans hE89
        have HBO : Hid (Blk w9 w8.heap.size 41 #[.slice Ac pso.length nc, .bool s5, .slice A5 n5 c5, .bool s6, .slice A6 n6 c6]) := by rw [hw9]; exact Lib.hid (Blk.newAt _ _ _ rfl)
        have HPO := Lib.hid (hP8.ext hE89)
        have HQO := Lib.hid (hQ8.ext hE89)
        have HE69 := Lib.hid hE69
        have hgo : gb < w8.heap.size := Nat.lt_of_lt_of_le HBB.out.lt (hE7.trans hE8).size'
        have HSA := Lib.hid (SameAud_any _ _ _ _ _ _ _ _ _ _ psb xb yb w9 HAUD.out.len HAUD.out.tw HAUD.out.nx HAUD.out.ny (HPA.out.ext (HE46.out.trans hE69)) (HPB.out.ext hE69) (HXA.out.1.ext (HE46.out.trans hE69)) (HXA.out.2.ext (HE46.out.trans hE69)) (HXB.out.1.ext hE69) (HXB.out.2.ext hE69))
        have f1 := (HBA.out.ext (HE46.out.trans hE69)).five
        have f2 := (HBB.out.ext hE69).five
        have HEc9 := Lib.hid (HEc6.out.trans hE69)
        clear hw9 hP8 hQ8 hE89 hE7 hE8 hE69
        generalize w8.heap.size = go at *
        go_wp2_with fail
        refine HSA.out.mono ?_
        rintro e wa ⟨rfl, hEa⟩
        have HEca := Lib.hid (HEc9.out.trans hEa)
        have HBB2 := Lib.hid (HBB.out.ext (HE69.out.trans hEa))
        have HPB2 := Lib.hid (HPB.out.ext (HE69.out.trans hEa))
        have HXB2 := Lib.hid (And.intro (HXB.out.1.ext (HE69.out.trans hEa)) (HXB.out.2.ext (HE69.out.trans hEa)))
        have HBO2 := Lib.hid (HBO.out.ext hEa)
        have HPO2 := Lib.hid (HPO.out.ext hEa)
        have HQO2 := Lib.hid (HQO.out.ext hEa)
        have HBS2 := Lib.hid (HB8.out.ext HEca.out)
        have HS2 := Lib.hid (HS.out.ext HEca.out)
        have HN2 := Lib.hid (HNG.out.ext HEca.out)
        have HEwa := Lib.hid (hEw.trans HEca.out)
        clear f1 f2 HBA HPA HXA HBB HPB HXB HBO HPO HQO HB8 HS HNG HSA HE4 HE46 HE69 HEc6 HEc9 hEa HEca HBX2 HNUM HOWN
        go_upto_if 67 with fail
        go_cut [] (fun wx => ∃ (ps : List PartD) (tt : Rat) (A0 : Option Addr) (n0 : Nat) (s1 : Bool) (A1 : Option Addr) (n1 c1 : Nat) (s2 : Bool) (A2 : Option Addr) (n2 c2 : Nat), AudSm ps tt ∧ Blk wx gb 41 #[.slice A0 ps.length n0, .bool s1, .slice A1 n1 c1, .bool s2, .slice A2 n2 c2] ∧ IsParts wx (.slice A0 ps.length n0) ps ∧ IsRat wx (.bool s1) (.slice A1 n1 c1) (.bool s2) (.slice A2 n2 c2) tt ∧
          Blk wx go 41 #[.slice Ac pso.length nc, .bool s5, .slice A5 n5 c5, .bool s6, .slice A6 n6 c6] ∧ IsParts wx (.slice Ac pso.length nc) pso ∧ IsRat wx (.bool s5) (.slice A5 n5 c5) (.bool s6) (.slice A6 n6 c6) tto ∧ Blk wx g8 30 #[.slice A8 hs.length c8] ∧ IsShelf wx (.slice A8 hs.length c8) hs ∧ IsNums wx (.slice B9 gs.length d9) gs ∧ Ext w wx)
        case first =>
          rcases HAUD.out.ok with ⟨rfl, tt, rfl, rfl, hsm⟩ | rfl
          · go_wp2_with fail
            go_meet
            exact ⟨psb, tt, A9, n9, s3, A3, n3, c3, s4, A4, n4, c4, hsm, HBB2.out, HPB2.out, HXB2.out, HBO2.out, HPO2.out, HQO2.out, HBS2.out, HS2.out, HN2.out, HEwa.out⟩
          · have f1 := HBB2.out.five
            have f2 := HBO2.out.five
            go_wp2_with fail
            go_meet
            have hk : ∀ (ts : List TypeId) (hs : 41 ∉ ts), KeepT ts wa (((((wa.setCell ⟨gb, 0, none⟩ (.slice Ac pso.length nc)).setCell ⟨gb, 1, none⟩ (.bool s5)).setCell ⟨gb, 2, none⟩ (.slice A5 n5 c5)).setCell ⟨gb, 3, none⟩ (.bool s6)).setCell ⟨gb, 4, none⟩ (.slice A6 n6 c6)) := fun ts hs => (KeepT.refl ts wa).set5 HBB2.out.type hs _ _ _ _ _
            exact ⟨pso, tto, Ac, nc, s5, A5, n5, c5, s6, A6, n6, c6, HSMO.out, HBB2.out.set5 _ _ _ _ _, HPO2.out.keep (hk _ (by decide)), HQO2.out.keep (hk _ (by decide)), HBO2.out.far5 (by omega) _ _ _ _ _, HPO2.out.keep (hk _ (by decide)), HQO2.out.keep (hk _ (by decide)), HBS2.out.far5 (by omega) _ _ _ _ _, HS2.out.keep (ts := [103, 37, 136, 3]) (hk _ (by decide)) (fun _ h => h), RowsOf.keep (ts := [3]) HN2.out (hk _ (by decide)) (by decide), HEwa.out.set5 (by omega) _ _ _ _ _⟩
        case rest =>
          obtain ⟨ps, tt, A0, n0, s1, A1, n1, c1, s2, A2, n2, c2, hsm, hBB, hPB, hQB, hBO, hPO, hQO, hBS, hS, hN, hEwc⟩ := hcut
          obtain ⟨wd, rfl⟩ : ∃ wd : World, wd = wc := ⟨_, rfl⟩
          clear HBB2 HPB2 HXB2 HBO2 HPO2 HQO2 HBS2 HS2 HN2 HEwa HAUD hgo hg8 hEw
          have HK : Hid (∀ w', Ext wd w' → (w'.cell? ⟨go, 0, none⟩ = some (.slice Ac pso.length nc) ∧ w'.cell? ⟨go, 1, none⟩ = some (.bool s5) ∧ w'.cell? ⟨go, 2, none⟩ = some (.slice A5 n5 c5) ∧ w'.cell? ⟨go, 3, none⟩ = some (.bool s6) ∧ w'.cell? ⟨go, 4, none⟩ = some (.slice A6 n6 c6) ∧ w'.cell? ⟨gb, 0, none⟩ = some (.slice A0 ps.length n0) ∧ w'.cell? ⟨gb, 1, none⟩ = some (.bool s1) ∧ w'.cell? ⟨gb, 2, none⟩ = some (.slice A1 n1 c1) ∧ w'.cell? ⟨gb, 3, none⟩ = some (.bool s2) ∧ w'.cell? ⟨gb, 4, none⟩ = some (.slice A2 n2 c2))) := Lib.hid (fun w' h => ⟨(hBO.ext h).cell 0, (hBO.ext h).cell 1, (hBO.ext h).cell 2, (hBO.ext h).cell 3, (hBO.ext h).cell 4, (hBB.ext h).cell 0, (hBB.ext h).cell 1, (hBB.ext h).cell 2, (hBB.ext h).cell 3, (hBB.ext h).cell 4⟩)
          have HSM := Lib.hid hsm
          have HPB := Lib.hid hPB
          have HQB := Lib.hid hQB
          have HPO := Lib.hid hPO
          have HQO := Lib.hid hQO
          have HBS := Lib.hid hBS
          have HS := Lib.hid hS
          have HNG := Lib.hid hN
          have HEwd := Lib.hid hEwc
          have hwt : IntKind.i64.wrap t16 = t16 := IntWalk.i64_in _ (by omega)
          have hwtt : IntKind.i64.wrap (n'.tmod 1000) = t16 := by rw [HT16.out]; exact hwt
          have hwt2 : IntKind.i16.wrap t16 = t16 := IntWalk.i16_in _ (by omega)
          have htt := HT16.out
          have q0 := HK.out wd (Ext.refl _)
          clear hsm hBB hPB hQB hBO hPO hQO hBS hS hN hEwc
          go_upto_region 14 with fail
          go_cut [16] (fun p wx => ∃ gl o : Nat, p = .slice (some ⟨gl, o, none⟩) 3 3 ∧ Auds3 wx gl o ∧ Ext wd wx)
          case first =>
            go_region_held3 (fun w' => w'.cell? ⟨go, 0, none⟩ = some (.slice Ac pso.length nc) ∧ w'.cell? ⟨go, 1, none⟩ = some (.bool s5) ∧ w'.cell? ⟨go, 2, none⟩ = some (.slice A5 n5 c5) ∧ w'.cell? ⟨go, 3, none⟩ = some (.bool s6) ∧ w'.cell? ⟨go, 4, none⟩ = some (.slice A6 n6 c6) ∧ w'.cell? ⟨gb, 0, none⟩ = some (.slice A0 ps.length n0) ∧ w'.cell? ⟨gb, 1, none⟩ = some (.bool s1) ∧ w'.cell? ⟨gb, 2, none⟩ = some (.slice A1 n1 c1) ∧ w'.cell? ⟨gb, 3, none⟩ = some (.bool s2) ∧ w'.cell? ⟨gb, 4, none⟩ = some (.slice A2 n2 c2))
              (first | (refine HK.out _ ?_; (repeat (first | with_reducible assumption | with_reducible exact Ext.refl _ | with_reducible refine Ext.drew ?_ | with_reducible refine Ext.drewN ?_ _ | with_reducible refine Ext.alloc ?_ _ | with_reducible refine Ext.set2 ?_ (by omega) _ _ | with_reducible refine Ext.setCell ?_ (by first | omega | (simp; done) | (simp; omega)) _ | with_reducible refine Ext.trans ?_ (by with_reducible assumption))); done))
              (first | (go_at_call 15; (with_reducible refine (HANY.out _ ?q1).mono ?_); (case q1 => (refine HEwd.out.trans ?_; (repeat (first | with_reducible assumption | with_reducible exact Ext.refl _ | with_reducible refine Ext.drew ?_ | with_reducible refine Ext.drewN ?_ _ | with_reducible refine Ext.alloc ?_ _ | with_reducible refine Ext.set2 ?_ (by omega) _ _ | with_reducible refine Ext.setCell ?_ (by first | omega | (simp; done) | (simp; omega)) _ | with_reducible refine Ext.trans ?_ (by with_reducible assumption))))); rintro e w3 ⟨v3, a3, b3, c3, d3, rfl, hP3, hQ3, hE3⟩; obtain ⟨A3, n3, rfl⟩ := IsParts.shape hP3; obtain ⟨s3, B3, m3, k3, s4, B4, m4, k4, rfl, rfl, rfl, rfl⟩ := hQ3.form))
            all_goals
              go_wp2_with fail
              go_meet
              have hE4 := (show Ext wd w3 by (repeat (first | with_reducible assumption | with_reducible exact Ext.refl _ | with_reducible refine Ext.drew ?_ | with_reducible refine Ext.drewN ?_ _ | with_reducible refine Ext.alloc ?_ _ | with_reducible refine Ext.set2 ?_ (by omega) _ _ | with_reducible refine Ext.setCell ?_ (by first | omega | (simp; done) | (simp; omega)) _ | with_reducible refine Ext.trans ?_ (by with_reducible assumption)))).alloc (.cells #[.slice Ac pso.length nc, .bool s5, .slice A5 n5 c5, .bool s6, .slice A6 n6 c6, .slice A3 psa.length n3, .bool s3, .slice B3 m3 k3, .bool s4, .slice B4 m4 k4, .slice A0 ps.length n0, .bool s1, .slice A1 n1 c1, .bool s2, .slice A2 n2 c2] 41)
              exact ⟨_, 0, rfl, auds3_of (l1 := [.slice Ac pso.length nc, .bool s5, .slice A5 n5 c5, .bool s6, .slice A6 n6 c6]) (l2 := [.slice A3 psa.length n3, .bool s3, .slice B3 m3 k3, .bool s4, .slice B4 m4 k4]) (l3 := [.slice A0 ps.length n0, .bool s1, .slice A1 n1 c1, .bool s2, .slice A2 n2 c2]) (Blk.newAt _ _ _ rfl)
                ⟨Ac, nc, s5, A5, n5, c5, s6, A6, n6, c6, rfl, HPO.out.ext hE4, HQO.out.ext hE4⟩ ⟨A3, n3, s3, B3, m3, k3, s4, B4, m4, k4, rfl, hP3.ext ((Ext.refl _).alloc _), hQ3.ext ((Ext.refl _).alloc _)⟩ ⟨A0, n0, s1, A1, n1, c1, s2, A2, n2, c2, rfl, HPB.out.ext hE4, HQB.out.ext hE4⟩ HSMO.out HSMA.out HSM.out, hE4⟩
          case rest =>
            clear q0 hwt hwtt hwt2 htt HK
            obtain ⟨gl, o, rfl, hA3, hE3⟩ := hcut
            obtain ⟨W1, rfl⟩ : ∃ W1 : World, W1 = wc := ⟨_, rfl⟩
            have HL := Lib.hid hA3
            have HBS1 := Lib.hid (HBS.out.ext hE3)
            have HS1 := Lib.hid (HS.out.ext hE3)
            have HN1 := Lib.hid (HNG.out.ext hE3)
            have HEW1 := Lib.hid (HEwd.out.trans hE3)
            clear hA3 hE3 HBS HS HNG HEwd HSM HPB HQB HPO HQO HANY HSMA HSMO
            go_wp2_with fail
            go_loopw [17] (fun t wr => ∃ i : Nat, t = .int .i64 (i : Int) ∧ i ≤ 3 ∧ Ext W1 wr) (fun t _ => 3 - (intOf t).toNat)
            case atStart => exact ⟨0, rfl, by omega, Ext.refl _⟩
            case round =>
              obtain ⟨i, rfl, hi, hEr⟩ := hrel
              obtain ⟨wo, rfl⟩ : ∃ wo : World, wo = wr := ⟨_, rfl⟩
              by_cases hlt : i < 3
              · obtain ⟨psi, tti, l, hsm, ⟨A0, n0, s1, A1, n1, c1, s2, A2, n2, c2, rfl, hP, hQ⟩, hl⟩ := HL.out i hlt
                have HK : Hid (∀ w', Ext wo w' → (w'.cell? ⟨gl, o + i * 5, none⟩ = some (.slice A0 psi.length n0) ∧ w'.cell? ⟨gl, o + i * 5 + 1, none⟩ = some (.bool s1) ∧ w'.cell? ⟨gl, o + i * 5 + 2, none⟩ = some (.slice A1 n1 c1) ∧ w'.cell? ⟨gl, o + i * 5 + 3, none⟩ = some (.bool s2) ∧ w'.cell? ⟨gl, o + i * 5 + 4, none⟩ = some (.slice A2 n2 c2) ∧ w'.cell? ⟨g8, 0, none⟩ = some (.slice A8 hs.length c8))) := Lib.hid (fun w' h => by
                  have hr := hl w' (hEr.trans h)
                  exact ⟨hr 0 _ rfl, hr 1 _ rfl, hr 2 _ rfl, hr 3 _ rfl, hr 4 _ rfl, (HBS1.out.ext (hEr.trans h)).cell 0⟩)
                have q0 := HK.out wo (Ext.refl _)
                have hlen : hs.length ≤ 100000 := by omega
                have hgl : gs.length ≤ 100000000 := by have := HLG.out; omega
                have HSK := Lib.hid (fun (w' : World) (h : Ext W1 w') => SumK_any _ _ _ _ _ _ _ psi tti hs gs w' hsm.len hlen hgl HOK.out hsm.tw hsm.short (hP.ext h) (hQ.ext h) (HS1.out.ext h) (HN1.out.ext h))
                have HSR := Lib.hid (fun (w' : World) (h : Ext W1 w') => Sum38_any _ _ _ _ _ _ _ psi tti hs gs w' hsm.len hlen hgl HOK.out hsm.tw (hP.ext h) (hQ.ext h) (HS1.out.ext h) (HN1.out.ext h))
                have HHK := Lib.hid (fun (w' : World) (h : Ext W1 w') => HoldsK_any _ _ _ _ _ _ _ psi tti hs gs w' hsm.len hlen hgl HOK.out hsm.tw hsm.short hsm.num hsm.den (hP.ext h) (hQ.ext h) (HS1.out.ext h) (HN1.out.ext h))
                have HHR := Lib.hid (fun (w' : World) (h : Ext W1 w') => Holds38_any _ _ _ _ _ _ _ psi tti hs gs w' hsm.len hlen hgl HOK.out hsm.tw hsm.num hsm.den (hP.ext h) (hQ.ext h) (HS1.out.ext h) (HN1.out.ext h))
                have hst := sumVal_tw (g := gs) HOK.out hsm.tw psi.length (Nat.le_refl _)
                rw [List.take_length] at hst
                have hsd := hst.den
                have hsn := hst.num
                have hml : (sortedOf (missK hs gs psi)).length ≤ 5000 := by rw [← sumMissR_eq]; exact Nat.le_trans (sumMissR_len _ _ _) hsm.len
                have hpl := hsm.len
                rw [show sumMissR hs gs psi = sortedOf (missK hs gs psi) from sumMissR_eq _ _ _] at HSR
                generalize sortedOf (missK hs gs psi) = ml at *
                generalize sumVal hs gs psi = sv at *
                obtain ⟨hb, hhb⟩ : ∃ hb : Bool, holdsOf hs gs psi tti = hb := ⟨_, rfl⟩
                rw [hhb] at HHK HHR
                have hbb : (hb != hb) = false := by cases hb <;> rfl
                clear hP hQ hl hst hhb hsm
                go_upto_region 18 with fail
                go_cut [18, 19] (fun p q wx => ∃ (gv : Nat) (x1 : Bool) (X1 : Option Addr) (m1 k1 : Nat) (x2 : Bool) (X2 : Option Addr) (m2 k2 : Nat) (M : Option Addr) (cm : Nat), p = .pointer (some ⟨gv, 0, none⟩) ∧ q = .slice M ml.length cm ∧ Blk wx gv 39 #[.bool x1, .slice X1 m1 k1, .bool x2, .slice X2 m2 k2] ∧ IsRat wx (.bool x1) (.slice X1 m1 k1) (.bool x2) (.slice X2 m2 k2) sv ∧ IsStrs wx (.slice M ml.length cm) ml ∧ Ext wo wx)
                case first =>
                  go_region_held3 (fun w' => w'.cell? ⟨gl, o + i * 5, none⟩ = some (.slice A0 psi.length n0) ∧ w'.cell? ⟨gl, o + i * 5 + 1, none⟩ = some (.bool s1) ∧ w'.cell? ⟨gl, o + i * 5 + 2, none⟩ = some (.slice A1 n1 c1) ∧ w'.cell? ⟨gl, o + i * 5 + 3, none⟩ = some (.bool s2) ∧ w'.cell? ⟨gl, o + i * 5 + 4, none⟩ = some (.slice A2 n2 c2) ∧ w'.cell? ⟨g8, 0, none⟩ = some (.slice A8 hs.length c8))
                    (first | (refine HK.out _ ?_; (repeat (first | with_reducible assumption | with_reducible exact Ext.refl _ | with_reducible refine Ext.drew ?_ | with_reducible refine Ext.drewN ?_ _ | with_reducible refine Ext.alloc ?_ _ | with_reducible refine Ext.set2 ?_ (by omega) _ _ | with_reducible refine Ext.setCell ?_ (by first | omega | (simp; done) | (simp; omega)) _ | with_reducible refine Ext.trans ?_ (by with_reducible assumption))); done))
                    (first | (go_at_call 16; (with_reducible refine (HSK.out _ ?q1).mono ?_); (case q1 => (refine hEr.trans ?_; (repeat (first | with_reducible assumption | with_reducible exact Ext.refl _ | with_reducible refine Ext.drew ?_ | with_reducible refine Ext.drewN ?_ _ | with_reducible refine Ext.alloc ?_ _ | with_reducible refine Ext.set2 ?_ (by omega) _ _ | with_reducible refine Ext.setCell ?_ (by first | omega | (simp; done) | (simp; omega)) _ | with_reducible refine Ext.trans ?_ (by with_reducible assumption))))); rintro e w3 ⟨a3, b3, c3, d3, m3, rfl, hq3, hm3, hE3⟩; obtain ⟨x1, X1, m1, k1, x2, X2, m2, k2, rfl, rfl, rfl, rfl⟩ := hq3.form; obtain ⟨M, cm, rfl⟩ := IsStrs.shape hm3; (try ((refine mp_of (p := Blk w3 wo.heap.size 39 #[.bool false, .slice none 0 0, .bool false, .slice none 0 0]) ?_ ?_); (focus (refine Blk.ext ?_ hE3; (repeat (first | with_reducible assumption | with_reducible exact Blk.newAt _ _ _ (by first | rfl | (simp; done) | (simp; omega)) | with_reducible refine Blk.alloc ?_ _ | with_reducible refine Blk.set2 (x := .bool false) (y := .slice none 0 0) ?_ _ _ | with_reducible refine Blk.far2 ?_ (by omega) _ _ | with_reducible refine Blk.drew ?_ | with_reducible refine Blk.ext ?_ (by with_reducible assumption))); done)); intro hb9; have y9 := hb9.four))))
                  all_goals
                    go_wp2_with fail
                    go_meet
                    first
                      | exact ⟨_, x1, X1, m1, k1, x2, X2, m2, k2, M, cm, rfl, rfl, (((hb9.set_ 0 (.bool x1)).set_ 1 (.slice X1 m1 k1)).set_ 2 (.bool x2)).set_ 3 (.slice X2 m2 k2), hq3.keep ((KeepT.refl _ _).set4 hb9.type (by decide) _ _ _ _), RowsOf.keep (ts := [9]) hm3 ((KeepT.refl _ _).set4 hb9.type (by decide) _ _ _ _) (by decide), Ext.set4 (by (repeat (first | with_reducible assumption | with_reducible exact Ext.refl _ | with_reducible refine Ext.drew ?_ | with_reducible refine Ext.drewN ?_ _ | with_reducible refine Ext.alloc ?_ _ | with_reducible refine Ext.set2 ?_ (by omega) _ _ | with_reducible refine Ext.setCell ?_ (by first | omega | (simp; done) | (simp; omega)) _ | with_reducible refine Ext.trans ?_ (by with_reducible assumption)))) (Nat.le_refl _) _ _ _ _⟩
                      | exact ⟨_, x1, X1, m1, k1, x2, X2, m2, k2, M, cm, rfl, rfl, Blk.newAt _ _ _ rfl, ⟨hq3.1.alloc _, hq3.2.alloc _⟩, IsStrs.ext hm3 ((Ext.refl _).alloc _), by (repeat (first | with_reducible assumption | with_reducible exact Ext.refl _ | with_reducible refine Ext.drew ?_ | with_reducible refine Ext.drewN ?_ _ | with_reducible refine Ext.alloc ?_ _ | with_reducible refine Ext.set2 ?_ (by omega) _ _ | with_reducible refine Ext.setCell ?_ (by first | omega | (simp; done) | (simp; omega)) _ | with_reducible refine Ext.trans ?_ (by with_reducible assumption)))⟩
                case rest =>
                  obtain ⟨gv, x1, X1, m1, k1, x2, X2, m2, k2, M, cm, rfl, rfl, hBv, hqv, hmv, hEv⟩ := hcut
                  obtain ⟨wp, rfl⟩ : ∃ wp : World, wp = wc := ⟨_, rfl⟩
                  have HBV := Lib.hid hBv
                  have HQV := Lib.hid hqv
                  have HMV := Lib.hid hmv
                  have HEV := Lib.hid hEv
                  have hEp := hEr.trans hEv
                  have HKp : Hid (∀ w', Ext wp w' → (w'.cell? ⟨gl, o + i * 5, none⟩ = some (.slice A0 psi.length n0) ∧ w'.cell? ⟨gl, o + i * 5 + 1, none⟩ = some (.bool s1) ∧ w'.cell? ⟨gl, o + i * 5 + 2, none⟩ = some (.slice A1 n1 c1) ∧ w'.cell? ⟨gl, o + i * 5 + 3, none⟩ = some (.bool s2) ∧ w'.cell? ⟨gl, o + i * 5 + 4, none⟩ = some (.slice A2 n2 c2) ∧ w'.cell? ⟨g8, 0, none⟩ = some (.slice A8 hs.length c8))) := Lib.hid (fun w' h => HK.out w' (HEV.out.trans h))
                  have q1 := HKp.out wp (Ext.refl _)
                  clear hBv hqv hmv q0 HSK hEv
                  go_upto_region 19 with fail
                  go_cut [20] (fun p wx => ∃ (gw : Nat) (x3 : Bool) (X3 : Option Addr) (m3 k3 : Nat) (x4 : Bool) (X4 : Option Addr) (m4 k4 : Nat) (N : Option Addr) (cn : Nat), p = .pointer (some ⟨gw, 0, none⟩) ∧ Blk wx gw 54 #[.bool x3, .slice X3 m3 k3, .bool x4, .slice X4 m4 k4, .slice N ml.length cn] ∧ IsRat wx (.bool x3) (.slice X3 m3 k3) (.bool x4) (.slice X4 m4 k4) sv ∧ IsStrs wx (.slice N ml.length cn) ml ∧ Ext wp wx)
                  case first =>
                    go_region_held3 (fun w' => w'.cell? ⟨gl, o + i * 5, none⟩ = some (.slice A0 psi.length n0) ∧ w'.cell? ⟨gl, o + i * 5 + 1, none⟩ = some (.bool s1) ∧ w'.cell? ⟨gl, o + i * 5 + 2, none⟩ = some (.slice A1 n1 c1) ∧ w'.cell? ⟨gl, o + i * 5 + 3, none⟩ = some (.bool s2) ∧ w'.cell? ⟨gl, o + i * 5 + 4, none⟩ = some (.slice A2 n2 c2) ∧ w'.cell? ⟨g8, 0, none⟩ = some (.slice A8 hs.length c8))
                      (first | (refine HKp.out _ ?_; (repeat (first | with_reducible assumption | with_reducible exact Ext.refl _ | with_reducible refine Ext.drew ?_ | with_reducible refine Ext.drewN ?_ _ | with_reducible refine Ext.alloc ?_ _ | with_reducible refine Ext.set2 ?_ (by omega) _ _ | with_reducible refine Ext.setCell ?_ (by first | omega | (simp; done) | (simp; omega)) _ | with_reducible refine Ext.trans ?_ (by with_reducible assumption))); done))
                      (first | (go_at_call 17; (with_reducible refine (HSR.out _ ?q1).mono ?_); (case q1 => (refine hEp.trans ?_; (repeat (first | with_reducible assumption | with_reducible exact Ext.refl _ | with_reducible refine Ext.drew ?_ | with_reducible refine Ext.drewN ?_ _ | with_reducible refine Ext.alloc ?_ _ | with_reducible refine Ext.set2 ?_ (by omega) _ _ | with_reducible refine Ext.setCell ?_ (by first | omega | (simp; done) | (simp; omega)) _ | with_reducible refine Ext.trans ?_ (by with_reducible assumption))))); rintro e w3 ⟨a3, b3, c3, d3, m3, rfl, hq3, hm3, hE3⟩; obtain ⟨x3, X3, p3, k3, x4, X4, p4, k4, rfl, rfl, rfl, rfl⟩ := hq3.form; obtain ⟨N, cn, rfl⟩ := IsStrs.shape hm3; (try ((refine mp_of (p := Blk w3 wp.heap.size 54 #[.bool false, .slice none 0 0, .bool false, .slice none 0 0, .slice none 0 0]) ?_ ?_); (focus (refine Blk.ext ?_ hE3; (repeat (first | with_reducible assumption | with_reducible exact Blk.newAt _ _ _ (by first | rfl | (simp; done) | (simp; omega)) | with_reducible refine Blk.alloc ?_ _ | with_reducible refine Blk.set2 (x := .bool false) (y := .slice none 0 0) ?_ _ _ | with_reducible refine Blk.far2 ?_ (by omega) _ _ | with_reducible refine Blk.drew ?_ | with_reducible refine Blk.ext ?_ (by with_reducible assumption))); done)); intro hb9; have y9 := hb9.five))))
                    all_goals
                      go_wp2_with fail
                      go_meet
                      first
                        | exact ⟨_, x3, X3, p3, k3, x4, X4, p4, k4, N, cn, rfl, hb9.set5 _ _ _ _ _, hq3.keep ((KeepT.refl _ _).set5 hb9.type (by decide) _ _ _ _ _), RowsOf.keep (ts := [9]) hm3 ((KeepT.refl _ _).set5 hb9.type (by decide) _ _ _ _ _) (by decide), Ext.set5 (by (repeat (first | with_reducible assumption | with_reducible exact Ext.refl _ | with_reducible refine Ext.drew ?_ | with_reducible refine Ext.drewN ?_ _ | with_reducible refine Ext.alloc ?_ _ | with_reducible refine Ext.set2 ?_ (by omega) _ _ | with_reducible refine Ext.setCell ?_ (by first | omega | (simp; done) | (simp; omega)) _ | with_reducible refine Ext.trans ?_ (by with_reducible assumption)))) (Nat.le_refl _) _ _ _ _ _⟩
                        | exact ⟨_, x3, X3, p3, k3, x4, X4, p4, k4, N, cn, rfl, Blk.newAt _ _ _ rfl, ⟨hq3.1.alloc _, hq3.2.alloc _⟩, IsStrs.ext hm3 ((Ext.refl _).alloc _), by (repeat (first | with_reducible assumption | with_reducible exact Ext.refl _ | with_reducible refine Ext.drew ?_ | with_reducible refine Ext.drewN ?_ _ | with_reducible refine Ext.alloc ?_ _ | with_reducible refine Ext.set2 ?_ (by omega) _ _ | with_reducible refine Ext.setCell ?_ (by first | omega | (simp; done) | (simp; omega)) _ | with_reducible refine Ext.trans ?_ (by with_reducible assumption)))⟩
                  case rest =>
                    obtain ⟨gw, x3, X3, m3, k3, x4, X4, m4, k4, N, cn, rfl, hBw, hqw, hmw, hEq⟩ := hcut
                    obtain ⟨wq, rfl⟩ : ∃ wq : World, wq = wc := ⟨_, rfl⟩
                    have hEo := hEp.trans hEq
                    have HK20 : Hid (∀ w', Ext wq w' → (w'.cell? ⟨gv, 0, none⟩ = some (.bool x1) ∧ w'.cell? ⟨gv, 1, none⟩ = some (.slice X1 m1 k1) ∧ w'.cell? ⟨gv, 2, none⟩ = some (.bool x2) ∧ w'.cell? ⟨gv, 3, none⟩ = some (.slice X2 m2 k2) ∧ w'.cell? ⟨gw, 0, none⟩ = some (.bool x3) ∧ w'.cell? ⟨gw, 1, none⟩ = some (.slice X3 m3 k3) ∧ w'.cell? ⟨gw, 2, none⟩ = some (.bool x4) ∧ w'.cell? ⟨gw, 3, none⟩ = some (.slice X4 m4 k4) ∧ w'.cell? ⟨gw, 4, none⟩ = some (.slice N ml.length cn) ∧ w'.cell? ⟨gl, o + i * 5, none⟩ = some (.slice A0 psi.length n0) ∧ w'.cell? ⟨gl, o + i * 5 + 1, none⟩ = some (.bool s1) ∧ w'.cell? ⟨gl, o + i * 5 + 2, none⟩ = some (.slice A1 n1 c1) ∧ w'.cell? ⟨gl, o + i * 5 + 3, none⟩ = some (.bool s2) ∧ w'.cell? ⟨gl, o + i * 5 + 4, none⟩ = some (.slice A2 n2 c2) ∧ w'.cell? ⟨g8, 0, none⟩ = some (.slice A8 hs.length c8))) := Lib.hid (fun w' h => by
                      have b1 := HBV.out.ext (hEq.trans h)
                      have b2 := hBw.ext h
                      exact ⟨b1.cell 0, b1.cell 1, b1.cell 2, b1.cell 3, b2.cell 0, b2.cell 1, b2.cell 2, b2.cell 3, b2.cell 4, HKp.out w' (hEq.trans h)⟩)
                    have HS1 := Lib.hid (fun (w' : World) (k : Ext wq w') => same_one (HQV.out.ext (hEq.trans k)) (hqw.ext k) rfl (by omega) (by omega))
                    have HS2 := Lib.hid (fun (w' : World) (k : Ext wq w') => (Same38_any _ _ ml ml w' (by omega) (by omega) (HMV.out.ext (hEq.trans k)) (hmw.ext k)).mono (R' := fun e w'' => e = .returned (.bool true) ∧ Ext w' w'') fun e w'' ⟨he, n, hw⟩ => ⟨by rw [he]; simp, by rw [hw]; exact (Ext.refl _).drewN n⟩)
                    have q2 := HK20.out wq (Ext.refl _)
                    clear q1 hBw hqw hmw HBV HQV HMV HKp HK HEV hEp HSR hEq
                    go_upto_region 20 with fail
                    go_region_held3 (fun w' => w'.cell? ⟨gv, 0, none⟩ = some (.bool x1) ∧ w'.cell? ⟨gv, 1, none⟩ = some (.slice X1 m1 k1) ∧ w'.cell? ⟨gv, 2, none⟩ = some (.bool x2) ∧ w'.cell? ⟨gv, 3, none⟩ = some (.slice X2 m2 k2) ∧ w'.cell? ⟨gw, 0, none⟩ = some (.bool x3) ∧ w'.cell? ⟨gw, 1, none⟩ = some (.slice X3 m3 k3) ∧ w'.cell? ⟨gw, 2, none⟩ = some (.bool x4) ∧ w'.cell? ⟨gw, 3, none⟩ = some (.slice X4 m4 k4) ∧ w'.cell? ⟨gw, 4, none⟩ = some (.slice N ml.length cn) ∧ w'.cell? ⟨gl, o + i * 5, none⟩ = some (.slice A0 psi.length n0) ∧ w'.cell? ⟨gl, o + i * 5 + 1, none⟩ = some (.bool s1) ∧ w'.cell? ⟨gl, o + i * 5 + 2, none⟩ = some (.slice A1 n1 c1) ∧ w'.cell? ⟨gl, o + i * 5 + 3, none⟩ = some (.bool s2) ∧ w'.cell? ⟨gl, o + i * 5 + 4, none⟩ = some (.slice A2 n2 c2) ∧ w'.cell? ⟨g8, 0, none⟩ = some (.slice A8 hs.length c8))
                      (first | (refine HK20.out _ ?_; (repeat (first | with_reducible assumption | with_reducible exact Ext.refl _ | with_reducible refine Ext.drew ?_ | with_reducible refine Ext.drewN ?_ _ | with_reducible refine Ext.alloc ?_ _ | with_reducible refine Ext.set2 ?_ (by omega) _ _ | with_reducible refine Ext.setCell ?_ (by first | omega | (simp; done) | (simp; omega)) _ | with_reducible refine Ext.trans ?_ (by with_reducible assumption))); done))
                      (first | (go_at_call 18; (with_reducible refine (HS1.out _ ?q1).mono ?_); (case q1 => (repeat (first | with_reducible assumption | with_reducible exact Ext.refl _ | with_reducible refine Ext.drew ?_ | with_reducible refine Ext.drewN ?_ _ | with_reducible refine Ext.alloc ?_ _ | with_reducible refine Ext.set2 ?_ (by omega) _ _ | with_reducible refine Ext.setCell ?_ (by first | omega | (simp; done) | (simp; omega)) _ | with_reducible refine Ext.trans ?_ (by with_reducible assumption)))); rintro e wn ⟨rfl, hen⟩) | (go_at_call 19; (with_reducible refine (HS2.out _ ?q1).mono ?_); (case q1 => (repeat (first | with_reducible assumption | with_reducible exact Ext.refl _ | with_reducible refine Ext.drew ?_ | with_reducible refine Ext.drewN ?_ _ | with_reducible refine Ext.alloc ?_ _ | with_reducible refine Ext.set2 ?_ (by omega) _ _ | with_reducible refine Ext.setCell ?_ (by first | omega | (simp; done) | (simp; omega)) _ | with_reducible refine Ext.trans ?_ (by with_reducible assumption)))); rintro e wm ⟨rfl, hem⟩) | (go_at_call 20; (with_reducible refine (HHK.out _ ?q1).mono ?_); (case q1 => (refine hEo.trans ?_; (repeat (first | with_reducible assumption | with_reducible exact Ext.refl _ | with_reducible refine Ext.drew ?_ | with_reducible refine Ext.drewN ?_ _ | with_reducible refine Ext.alloc ?_ _ | with_reducible refine Ext.set2 ?_ (by omega) _ _ | with_reducible refine Ext.setCell ?_ (by first | omega | (simp; done) | (simp; omega)) _ | with_reducible refine Ext.trans ?_ (by with_reducible assumption))))); rintro e wl ⟨rfl, hel⟩) | (go_at_call 21; (with_reducible refine (HHR.out _ ?q1).mono ?_); (case q1 => (refine hEo.trans ?_; (repeat (first | with_reducible assumption | with_reducible exact Ext.refl _ | with_reducible refine Ext.drew ?_ | with_reducible refine Ext.drewN ?_ _ | with_reducible refine Ext.alloc ?_ _ | with_reducible refine Ext.set2 ?_ (by omega) _ _ | with_reducible refine Ext.setCell ?_ (by first | omega | (simp; done) | (simp; omega)) _ | with_reducible refine Ext.trans ?_ (by with_reducible assumption))))); rintro e wk ⟨rfl, hek⟩))
                    all_goals
                      go_wp2_with fail
                      exact ⟨⟨i + 1, by go_num, by omega, hEo.trans (by (repeat (first | with_reducible assumption | with_reducible exact Ext.refl _ | with_reducible refine Ext.drew ?_ | with_reducible refine Ext.drewN ?_ _ | with_reducible refine Ext.alloc ?_ _ | with_reducible refine Ext.set2 ?_ (by omega) _ _ | with_reducible refine Ext.setCell ?_ (by first | omega | (simp; done) | (simp; omega)) _ | with_reducible refine Ext.trans ?_ (by with_reducible assumption))))⟩, by (simp [intOf] <;> omega)⟩
              · obtain rfl : i = 3 := by omega
                go_wp2
                go_ret
                exact ⟨rfl, HEW1.out.trans hEr⟩

end Go.Proofs.YtddgjlfniabehaaGreatDoor
