/-
  R38.Any: an audit of any form out of bytes.
-/
import Derived.Test.YtddgjlfniabehaaGreatDoorJ24
import Derived.Test.YtddgjlfniabehaaGreatDoorJ23
import Derived.IntWalk
set_option linter.unusedVariables false
set_option linter.unusedSimpArgs false

/- R38.Any: an audit of any form out of bytes. -/
namespace Go.Proofs.YtddgjlfniabehaaGreatDoor
open Go.RowKit
attribute [local go_sem ↓] Go.wp_at_zero Go.wp_at_succ

theorem Blk.set9 {w : World} {g : Nat} {t : TypeId} {z0 z1 z2 z3 z4 z5 z6 z7 z8 : Value} (h : Blk w g t #[z0, z1, z2, z3, z4, z5, z6, z7, z8]) (v0 v1 v2 v3 v4 v5 v6 v7 v8 : Value) :
    Blk (((((((((w.setCell ⟨g, 0, none⟩ v0).setCell ⟨g, 1, none⟩ v1).setCell ⟨g, 2, none⟩ v2).setCell ⟨g, 3, none⟩ v3).setCell ⟨g, 4, none⟩ v4).setCell ⟨g, 5, none⟩ v5).setCell ⟨g, 6, none⟩ v6).setCell ⟨g, 7, none⟩ v7).setCell ⟨g, 8, none⟩ v8) g t #[v0, v1, v2, v3, v4, v5, v6, v7, v8] := by
  have h0 : Blk (w.setCell ⟨g, 0, none⟩ v0) g t #[v0, z1, z2, z3, z4, z5, z6, z7, z8] := h.set_ 0 v0
  have h1 : Blk ((w.setCell ⟨g, 0, none⟩ v0).setCell ⟨g, 1, none⟩ v1) g t #[v0, v1, z2, z3, z4, z5, z6, z7, z8] := h0.set_ 1 v1
  have h2 : Blk (((w.setCell ⟨g, 0, none⟩ v0).setCell ⟨g, 1, none⟩ v1).setCell ⟨g, 2, none⟩ v2) g t #[v0, v1, v2, z3, z4, z5, z6, z7, z8] := h1.set_ 2 v2
  have h3 : Blk ((((w.setCell ⟨g, 0, none⟩ v0).setCell ⟨g, 1, none⟩ v1).setCell ⟨g, 2, none⟩ v2).setCell ⟨g, 3, none⟩ v3) g t #[v0, v1, v2, v3, z4, z5, z6, z7, z8] := h2.set_ 3 v3
  have h4 : Blk (((((w.setCell ⟨g, 0, none⟩ v0).setCell ⟨g, 1, none⟩ v1).setCell ⟨g, 2, none⟩ v2).setCell ⟨g, 3, none⟩ v3).setCell ⟨g, 4, none⟩ v4) g t #[v0, v1, v2, v3, v4, z5, z6, z7, z8] := h3.set_ 4 v4
  have h5 : Blk ((((((w.setCell ⟨g, 0, none⟩ v0).setCell ⟨g, 1, none⟩ v1).setCell ⟨g, 2, none⟩ v2).setCell ⟨g, 3, none⟩ v3).setCell ⟨g, 4, none⟩ v4).setCell ⟨g, 5, none⟩ v5) g t #[v0, v1, v2, v3, v4, v5, z6, z7, z8] := h4.set_ 5 v5
  have h6 : Blk (((((((w.setCell ⟨g, 0, none⟩ v0).setCell ⟨g, 1, none⟩ v1).setCell ⟨g, 2, none⟩ v2).setCell ⟨g, 3, none⟩ v3).setCell ⟨g, 4, none⟩ v4).setCell ⟨g, 5, none⟩ v5).setCell ⟨g, 6, none⟩ v6) g t #[v0, v1, v2, v3, v4, v5, v6, z7, z8] := h5.set_ 6 v6
  have h7 : Blk ((((((((w.setCell ⟨g, 0, none⟩ v0).setCell ⟨g, 1, none⟩ v1).setCell ⟨g, 2, none⟩ v2).setCell ⟨g, 3, none⟩ v3).setCell ⟨g, 4, none⟩ v4).setCell ⟨g, 5, none⟩ v5).setCell ⟨g, 6, none⟩ v6).setCell ⟨g, 7, none⟩ v7) g t #[v0, v1, v2, v3, v4, v5, v6, v7, z8] := h6.set_ 7 v7
  have h8 : Blk (((((((((w.setCell ⟨g, 0, none⟩ v0).setCell ⟨g, 1, none⟩ v1).setCell ⟨g, 2, none⟩ v2).setCell ⟨g, 3, none⟩ v3).setCell ⟨g, 4, none⟩ v4).setCell ⟨g, 5, none⟩ v5).setCell ⟨g, 6, none⟩ v6).setCell ⟨g, 7, none⟩ v7).setCell ⟨g, 8, none⟩ v8) g t #[v0, v1, v2, v3, v4, v5, v6, v7, v8] := h7.set_ 8 v8
  exact h8
theorem Ext.set9 {a w : World} {g : Nat} (h : Ext a w) (hg : a.heap.size ≤ g) (v0 v1 v2 v3 v4 v5 v6 v7 v8 : Value) :
    Ext a (((((((((w.setCell ⟨g, 0, none⟩ v0).setCell ⟨g, 1, none⟩ v1).setCell ⟨g, 2, none⟩ v2).setCell ⟨g, 3, none⟩ v3).setCell ⟨g, 4, none⟩ v4).setCell ⟨g, 5, none⟩ v5).setCell ⟨g, 6, none⟩ v6).setCell ⟨g, 7, none⟩ v7).setCell ⟨g, 8, none⟩ v8) :=
  ((((((((h.setCell (p := ⟨g, 0, none⟩) hg v0).setCell (p := ⟨g, 1, none⟩) hg v1).setCell (p := ⟨g, 2, none⟩) hg v2).setCell (p := ⟨g, 3, none⟩) hg v3).setCell (p := ⟨g, 4, none⟩) hg v4).setCell (p := ⟨g, 5, none⟩) hg v5).setCell (p := ⟨g, 6, none⟩) hg v6).setCell (p := ⟨g, 7, none⟩) hg v7).setCell (p := ⟨g, 8, none⟩) hg v8
theorem Blk.keep9 {ts : List TypeId} {w : World} {g : Nat} {t : TypeId} {cs : Array Value} (h : Blk w g t cs) (hs : t ∉ ts) (v0 v1 v2 v3 v4 v5 v6 v7 v8 : Value) :
    KeepT ts w (((((((((w.setCell ⟨g, 0, none⟩ v0).setCell ⟨g, 1, none⟩ v1).setCell ⟨g, 2, none⟩ v2).setCell ⟨g, 3, none⟩ v3).setCell ⟨g, 4, none⟩ v4).setCell ⟨g, 5, none⟩ v5).setCell ⟨g, 6, none⟩ v6).setCell ⟨g, 7, none⟩ v7).setCell ⟨g, 8, none⟩ v8) := by
  have t0 := h.type
  have t1 := t0.setCell ⟨g, 0, none⟩ v0
  have t2 := t1.setCell ⟨g, 1, none⟩ v1
  have t3 := t2.setCell ⟨g, 2, none⟩ v2
  have t4 := t3.setCell ⟨g, 3, none⟩ v3
  have t5 := t4.setCell ⟨g, 4, none⟩ v4
  have t6 := t5.setCell ⟨g, 5, none⟩ v5
  have t7 := t6.setCell ⟨g, 6, none⟩ v6
  have t8 := t7.setCell ⟨g, 7, none⟩ v7
  exact (((((((((KeepT.refl ts w).set (p := ⟨g, 0, none⟩) t0 hs v0).set (p := ⟨g, 1, none⟩) t1 hs v1).set (p := ⟨g, 2, none⟩) t2 hs v2).set (p := ⟨g, 3, none⟩) t3 hs v3).set (p := ⟨g, 4, none⟩) t4 hs v4).set (p := ⟨g, 5, none⟩) t5 hs v5).set (p := ⟨g, 6, none⟩) t6 hs v6).set (p := ⟨g, 7, none⟩) t7 hs v7).set (p := ⟨g, 8, none⟩) t8 hs v8
theorem Blk.nine {w : World} {g : Nat} {t : TypeId} {z0 z1 z2 z3 z4 z5 z6 z7 z8 : Value} (h : Blk w g t #[z0, z1, z2, z3, z4, z5, z6, z7, z8]) :
    w.cell? ⟨g, 0, none⟩ = some z0 ∧ w.cell? ⟨g, 1, none⟩ = some z1 ∧ w.cell? ⟨g, 2, none⟩ = some z2 ∧ w.cell? ⟨g, 3, none⟩ = some z3 ∧ w.cell? ⟨g, 4, none⟩ = some z4 ∧ w.cell? ⟨g, 5, none⟩ = some z5 ∧ w.cell? ⟨g, 6, none⟩ = some z6 ∧ w.cell? ⟨g, 7, none⟩ = some z7 ∧ w.cell? ⟨g, 8, none⟩ = some z8 ∧
      w.frozen? ⟨g, 0, none⟩ = false ∧ w.frozen? ⟨g, 1, none⟩ = false ∧ w.frozen? ⟨g, 2, none⟩ = false ∧ w.frozen? ⟨g, 3, none⟩ = false ∧ w.frozen? ⟨g, 4, none⟩ = false ∧ w.frozen? ⟨g, 5, none⟩ = false ∧ w.frozen? ⟨g, 6, none⟩ = false ∧ w.frozen? ⟨g, 7, none⟩ = false ∧ w.frozen? ⟨g, 8, none⟩ = false :=
  ⟨h.cell 0, h.cell 1, h.cell 2, h.cell 3, h.cell 4, h.cell 5, h.cell 6, h.cell 7, h.cell 8, h.frozen 0, h.frozen 1, h.frozen 2, h.frozen 3, h.frozen 4, h.frozen 5, h.frozen 6, h.frozen 7, h.frozen 8⟩
def anyIs (d : Int) : Bool := d.tmod 2 != 0
def anyPart (q : Q4) : PartD := ⟨nameOf (q.a % 16).toNat, q.b.tmod 3, mkRat q.c 12, anyIs q.d, if anyIs q.d then q.d.tdiv 2 else 0⟩
def anyParts (qs : List Q4) : List PartD := (qs.take 20).map anyPart
theorem any_succ (qs : List Q4) (k : Nat) (hk : k < qs.length) (h : k < 20) : ((qs.take (k + 1)).map anyPart) = (qs.take k).map anyPart ++ [anyPart qs[k]] := by
  rw [List.take_succ_eq_append_getElem hk, List.map_append]; rfl
theorem tdiv2_bd {d : Int} (h1 : -128 ≤ d) (h2 : d ≤ 127) : -64 ≤ d.tdiv 2 ∧ d.tdiv 2 ≤ 64 := by
  rcases Int.le_total 0 d with h | h
  · rw [Int.tdiv_eq_ediv_of_nonneg h]; omega
  · obtain ⟨n, rfl⟩ : ∃ n : Int, d = -n := ⟨-d, by omega⟩
    rw [Int.neg_tdiv, Int.tdiv_eq_ediv_of_nonneg (by omega)]; omega
theorem anyPart_tw {q : Q4} (h : q.ok) : PartTw (anyPart q) := by
  obtain ⟨_, _, ⟨h1, h2⟩, h3, h4⟩ := h
  refine ⟨⟨q.c, rfl, by omega⟩, ?_⟩
  have := tdiv2_bd h3 h4
  unfold anyPart
  dsimp only
  split <;> omega

set_option maxRecDepth 100000 in
set_option maxHeartbeats 8000000 in
theorem Any38_any (lv : Value) (qs : List Q4) (t : Int) (w : World) (ht1 : -32768 ≤ t) (ht2 : t ≤ 32767) (hq : ∀ q ∈ qs, q.ok) (h1 : ArgQuads w lv qs) (hlen : qs.length ≤ 100000000) :
    Calls Tryz.prog 15 #[lv, .int .i16 t] w fun e w' => ∃ (v a b c d : Value), e = .returned (.agg #[v, a, b, c, d]) ∧ IsParts w' v (anyParts qs) ∧ IsRat w' a b c d (mkRat t 12) ∧ Ext w w' := by
  obtain ⟨A, d, rfl⟩ := h1.shape
  have H1 := Lib.hid h1
  have HQ := Lib.hid hq
  have hwt : IntKind.i64.wrap t = t := IntWalk.i64_in _ (by omega)
  have HOT := Lib.hid (fun w' => show Calls Tryz.prog 22 #[.int .i64 t, .int .i64 12] w' (RRat w' (mkRat t 12)) from rOf1_any t 12 w' (by omega) (by omega) (by omega) (by omega))
  clear h1 hq
  go_enter Tryz.func15, Tryz.ntmps15
  go_upto_region 1 with fail
  obtain ⟨W, hW⟩ : ∃ W : World, W = w.alloc (.cells #[.slice none 0 0, .bool false, .slice none 0 0, .bool false, .slice none 0 0] 41) := ⟨_, rfl⟩
  rw [← hW]
  have hE : Ext w W := by rw [hW]; exact (Ext.refl w).alloc _
  have hB0 : Blk W w.heap.size 41 #[.slice none 0 0, .bool false, .slice none 0 0, .bool false, .slice none 0 0] := by rw [hW]; exact Blk.newAt _ _ _ rfl
  clear hW
  go_wp2_with fail
  refine (HOT.out W).mono ?_
  rintro e w2 ⟨s1, A1, n1, c1, s2, A2, n2, c2, rfl, hq2, hE2⟩
  go_upto_region 2 with fail
  obtain ⟨w3, hw3⟩ : ∃ w3 : World, w3 = w2.alloc (.cells #[.slice none 0 0, .bool s1, .slice A1 n1 c1, .bool s2, .slice A2 n2 c2] 41) := ⟨_, rfl⟩
  rw [← hw3]
  have hE3 : Ext w w3 := by rw [hw3]; exact (hE.trans hE2).alloc _
  have hE23 : Ext w2 w3 := by rw [hw3]; exact (Ext.refl _).alloc _
  have hBo : Blk w3 w2.heap.size 41 #[.slice none 0 0, .bool s1, .slice A1 n1 c1, .bool s2, .slice A2 n2 c2] := by rw [hw3]; exact Blk.newAt _ _ _ rfl
  have hgo : w.heap.size < w2.heap.size := Nat.lt_of_lt_of_le hB0.lt hE2.size'
  have HBO := Lib.hid hBo
  have HB0 := Lib.hid (hB0.ext (hE2.trans hE23))
  have HQT := Lib.hid (hq2.ext hE23)
  have hw3s : w3.heap.size = w2.heap.size + 1 := by rw [hw3]; simp
  have HO0 : Hid (OwnParts (w2.heap.size + 1) w3 (.slice none 0 0) []) := Lib.hid ⟨[], World.ownsRow_nil _ _ _ _, trivial⟩
  clear hw3 hBo hq2 hB0 hE2 hE23 hE HOT hwt hw3s
  generalize w2.heap.size = go at *
  go_wp2_with fail
  go_loopw [6] (fun t wr => ∃ (i : Nat) (A0 : Option Addr) (c0 : Nat), t = .int .i64 (i : Int) ∧ i ≤ qs.length ∧ i ≤ 20 ∧ Hid (Blk wr go 41 #[.slice A0 i c0, .bool s1, .slice A1 n1 c1, .bool s2, .slice A2 n2 c2]) ∧ Hid (OwnParts (go + 1) wr (.slice A0 i c0) ((qs.take i).map anyPart)) ∧ Hid (KeepT [136] w3 wr) ∧ Hid (Blk wr w.heap.size 41 #[.slice none 0 0, .bool false, .slice none 0 0, .bool false, .slice none 0 0]) ∧ Ext w wr) (fun t _ => qs.length - (intOf t).toNat)
  case atStart => exact ⟨0, _, _, rfl, Nat.zero_le _, Nat.zero_le _, HBO, HO0, Lib.hid (KeepT.refl _ _), HB0, hE3⟩
  case round =>
    obtain ⟨i, A0, c0, rfl, hi, hi20, hBo, hO, hK, hB0, hEr⟩ := hrel
    obtain ⟨wo, rfl⟩ : ∃ wo : World, wo = wr := ⟨_, rfl⟩
    by_cases hboth : i < qs.length ∧ i < 20
    · obtain ⟨hlt, hlt20⟩ := hboth
      · obtain ⟨b, o, rfl, hc⟩ := H1.out.at i hlt
        have hok := HQ.out _ (List.getElem_mem hlt)
        have hS := Lib.hid (any_succ qs i hlt hlt20)
        generalize qs[i] = q at *
        obtain ⟨xa, xb, xc, xd⟩ := q
        obtain ⟨⟨a1, a2⟩, ⟨b1, b2⟩, ⟨d1, d2⟩, e1, e2⟩ := hok
        simp only at a1 a2 b1 b2 d1 d2 e1 e2 hc
        have HC := Lib.hid (fun (w' : World) (k : Ext wo w') => hc w' (hEr.trans k))
        obtain ⟨m, hm, hm1⟩ : ∃ m : Nat, xa % 16 = (m : Int) ∧ m < 16 := ⟨(xa % 16).toNat, by omega, by omega⟩
        obtain ⟨x8, hx8⟩ : ∃ x8 : Int, xa % 256 = x8 := ⟨_, rfl⟩
        have hx0 : 0 ≤ x8 := by omega
        have hx9 : x8 ≤ 255 := by omega
        have hwa : IntKind.u8.wrap xa = x8 := by rw [IntKind.wrap_u8]; exact hx8
        have ht8 : x8.tmod 16 = (m : Int) := by rw [Int.tmod_eq_emod_of_nonneg hx0]; omega
        have hwm8 : IntKind.u8.wrap (m : Int) = (m : Int) := IntWalk.u8_in _ (by omega)
        have hwt8 : IntKind.u8.wrap (x8.tmod 16) = (m : Int) := by rw [ht8]; exact hwm8
        have hwm : IntKind.i64.wrap (m : Int) = (m : Int) := IntWalk.i64_in _ (by omega)
        obtain ⟨y3, hy3⟩ : ∃ y3 : Int, xb.tmod 3 = y3 := ⟨_, rfl⟩
        have hy4 : -2 ≤ y3 ∧ y3 ≤ 2 := by
          have h3 := Int.natAbs_tmod xb 3
          rw [hy3] at h3
          simp at h3
          omega
        have hwb8 : IntKind.i8.wrap y3 = y3 := IntWalk.i8_in _ (by omega)
        have hwbt : IntKind.i8.wrap (xb.tmod 3) = y3 := by rw [hy3]; exact hwb8
        have hwb : IntKind.i64.wrap y3 = y3 := IntWalk.i64_in _ (by omega)
        have hwc : IntKind.i64.wrap xc = xc := IntWalk.i64_in _ (by omega)
        obtain ⟨r, hr⟩ : ∃ r : Int, xd.tmod 2 = r := ⟨_, rfl⟩
        obtain ⟨z, hz⟩ : ∃ z : Int, xd.tdiv 2 = z := ⟨_, rfl⟩
        have hz4 : -64 ≤ z ∧ z ≤ 64 := by rw [← hz]; exact tdiv2_bd e1 e2
        obtain ⟨isb, hisb⟩ : ∃ isb : Bool, (r != 0) = isb := ⟨_, rfl⟩
        have HPE := Lib.hid (show anyPart ⟨xa, xb, xc, xd⟩ = ⟨nameOf m, y3, mkRat xc 12, isb, if isb then z else 0⟩ by
          unfold anyPart anyIs
          simp only [hm, hy3, hr, hz, hisb, Int.toNat_natCast])
        have hr4 : -1 ≤ r ∧ r ≤ 1 := by
          have h3 := Int.natAbs_tmod xd 2
          rw [hr] at h3
          simp at h3
          omega
        have HR4 := Lib.hid hr
        have HZ4 := Lib.hid hz
        have HISB := Lib.hid hisb
        have hil : (i : Int) < (qs.length : Int) := by omega
        have hi20 : (i : Int) < 20 := by omega
        have hi0 : (0 : Int) ≤ (i : Int) := by omega
        have HC12 := Lib.hid (fun w' => show Calls Tryz.prog 22 #[.int .i64 xc, .int .i64 12] w' (RRat w' (mkRat xc 12)) from rOf1_any xc 12 w' (by omega) (by omega) (by omega) (by omega))
        have q0 := HC.out wo (Ext.refl _)
        clear hc a1 a2 hm hx8 hr hz hisb
        go_upto_region 5 with fail
        go_cut [7] (fun p wx => ∃ (g : Nat) (s3 : Bool) (A3 : Option Addr) (n3 c3 : Nat) (s4 : Bool) (A4 : Option Addr) (n4 c4 : Nat), p = .pointer (some ⟨g, 0, none⟩) ∧ wo.heap.size ≤ g ∧ Blk wx g 62 #[.string ⟨(nameOf m).toArray⟩, .int .i64 y3, .bool s3, .slice A3 n3 c3, .bool s4, .slice A4 n4 c4, .bool false, .bool false, .slice none 0 0] ∧ IsRat wx (.bool s3) (.slice A3 n3 c3) (.bool s4) (.slice A4 n4 c4) (mkRat xc 12) ∧ Ext wo wx)
        case first =>
          go_region_held3 (fun w' => w'.cell? ⟨b, o + i * 4, none⟩ = some (.int .i8 xa) ∧ w'.cell? ⟨b, o + i * 4 + 1, none⟩ = some (.int .i8 xb) ∧ w'.cell? ⟨b, o + i * 4 + 2, none⟩ = some (.int .i8 xc) ∧ w'.cell? ⟨b, o + i * 4 + 3, none⟩ = some (.int .i8 xd))
            (first | (refine HC.out _ ?_; (repeat (first | with_reducible assumption | with_reducible exact Ext.refl _ | with_reducible refine Ext.drew ?_ | with_reducible refine Ext.drewN ?_ _ | with_reducible refine Ext.alloc ?_ _ | with_reducible refine Ext.set2 ?_ (by omega) _ _ | with_reducible refine Ext.setCell ?_ (by first | omega | (simp; done) | (simp; omega)) _ | with_reducible refine Ext.trans ?_ (by with_reducible assumption))); done))
            (first | (go_at_call 43; (with_reducible refine (Name38_any m _ (by omega)).mono ?_); rintro e w5 ⟨rfl, he5⟩; have hs5 := (show Ext wo w5 by (repeat (first | with_reducible assumption | with_reducible exact Ext.refl _ | with_reducible refine Ext.drew ?_ | with_reducible refine Ext.drewN ?_ _ | with_reducible refine Ext.alloc ?_ _ | with_reducible refine Ext.set2 ?_ (by omega) _ _ | with_reducible refine Ext.setCell ?_ (by first | omega | (simp; done) | (simp; omega)) _ | with_reducible refine Ext.trans ?_ (by with_reducible assumption)))).size'; (try ((refine mp_of (p := Blk w5 wo.heap.size 62 #[.string ⟨#[]⟩, .int .i64 0, .bool false, .slice none 0 0, .bool false, .slice none 0 0, .bool false, .bool false, .slice none 0 0]) ?_ ?_); (focus (refine Blk.ext ?_ he5; (repeat (first | with_reducible assumption | with_reducible exact Blk.newAt _ _ _ (by first | rfl | (simp; done) | (simp; omega)) | with_reducible refine Blk.alloc ?_ _ | with_reducible refine Blk.set2 (x := .bool false) (y := .slice none 0 0) ?_ _ _ | with_reducible refine Blk.far2 ?_ (by omega) _ _ | with_reducible refine Blk.drew ?_ | with_reducible refine Blk.ext ?_ (by with_reducible assumption))); done)); intro hb5; have nhb5 := hb5.nine)); (try ((refine mp_of (p := Blk w5 w6.heap.size 62 #[.string ⟨#[]⟩, .int .i64 0, .bool false, .slice none 0 0, .bool false, .slice none 0 0, .bool false, .bool false, .slice none 0 0]) ?_ ?_); (focus (refine Blk.ext ?_ he5; (repeat (first | with_reducible assumption | with_reducible exact Blk.newAt _ _ _ (by first | rfl | (simp; done) | (simp; omega)) | with_reducible refine Blk.alloc ?_ _ | with_reducible refine Blk.set2 (x := .bool false) (y := .slice none 0 0) ?_ _ _ | with_reducible refine Blk.far2 ?_ (by omega) _ _ | with_reducible refine Blk.drew ?_ | with_reducible refine Blk.ext ?_ (by with_reducible assumption))); done)); intro hc5; have nhc5 := hc5.nine))) | (go_at_call 22; (with_reducible refine (HC12.out _).mono ?_); rintro e w6 ⟨s3, A3, n3, c3, s4, A4, n4, c4, rfl, hq6, he6⟩; have hs6 := (show Ext wo w6 by (repeat (first | with_reducible assumption | with_reducible exact Ext.refl _ | with_reducible refine Ext.drew ?_ | with_reducible refine Ext.drewN ?_ _ | with_reducible refine Ext.alloc ?_ _ | with_reducible refine Ext.set2 ?_ (by omega) _ _ | with_reducible refine Ext.setCell ?_ (by first | omega | (simp; done) | (simp; omega)) _ | with_reducible refine Ext.trans ?_ (by with_reducible assumption)))).size'; (try ((refine mp_of (p := Blk w6 wo.heap.size 62 #[.string ⟨#[]⟩, .int .i64 0, .bool false, .slice none 0 0, .bool false, .slice none 0 0, .bool false, .bool false, .slice none 0 0]) ?_ ?_); (focus (refine Blk.ext ?_ he6; (repeat (first | with_reducible assumption | with_reducible exact Blk.newAt _ _ _ (by first | rfl | (simp; done) | (simp; omega)) | with_reducible refine Blk.alloc ?_ _ | with_reducible refine Blk.set2 (x := .bool false) (y := .slice none 0 0) ?_ _ _ | with_reducible refine Blk.far2 ?_ (by omega) _ _ | with_reducible refine Blk.drew ?_ | with_reducible refine Blk.ext ?_ (by with_reducible assumption))); done)); intro hb6; have nhb6 := hb6.nine)); (try ((refine mp_of (p := Blk w6 w5.heap.size 62 #[.string ⟨#[]⟩, .int .i64 0, .bool false, .slice none 0 0, .bool false, .slice none 0 0, .bool false, .bool false, .slice none 0 0]) ?_ ?_); (focus (refine Blk.ext ?_ he6; (repeat (first | with_reducible assumption | with_reducible exact Blk.newAt _ _ _ (by first | rfl | (simp; done) | (simp; omega)) | with_reducible refine Blk.alloc ?_ _ | with_reducible refine Blk.set2 (x := .bool false) (y := .slice none 0 0) ?_ _ _ | with_reducible refine Blk.far2 ?_ (by omega) _ _ | with_reducible refine Blk.drew ?_ | with_reducible refine Blk.ext ?_ (by with_reducible assumption))); done)); intro hc6; have nhc6 := hc6.nine))))
          all_goals
            go_wp2_with fail
            go_meet
            first
              | exact ⟨_, s3, A3, n3, c3, s4, A4, n4, c4, rfl, hs6, Blk.newAt _ _ _ rfl, IsRat.ext hq6 ((Ext.refl _).alloc _), by (repeat (first | with_reducible assumption | with_reducible exact Ext.refl _ | with_reducible refine Ext.drew ?_ | with_reducible refine Ext.drewN ?_ _ | with_reducible refine Ext.alloc ?_ _ | with_reducible refine Ext.set2 ?_ (by omega) _ _ | with_reducible refine Ext.setCell ?_ (by first | omega | (simp; done) | (simp; omega)) _ | with_reducible refine Ext.trans ?_ (by with_reducible assumption)))⟩
              | exact ⟨_, s3, A3, n3, c3, s4, A4, n4, c4, rfl, hs5, hc6.set9 _ _ _ _ _ _ _ _ _, hq6.keep (hc6.keep9 (by decide) _ _ _ _ _ _ _ _ _), Ext.set9 (by (repeat (first | with_reducible assumption | with_reducible exact Ext.refl _ | with_reducible refine Ext.drew ?_ | with_reducible refine Ext.drewN ?_ _ | with_reducible refine Ext.alloc ?_ _ | with_reducible refine Ext.set2 ?_ (by omega) _ _ | with_reducible refine Ext.setCell ?_ (by first | omega | (simp; done) | (simp; omega)) _ | with_reducible refine Ext.trans ?_ (by with_reducible assumption)))) hs5 _ _ _ _ _ _ _ _ _⟩
              | exact ⟨_, s3, A3, n3, c3, s4, A4, n4, c4, rfl, Nat.le_refl _, hb6.set9 _ _ _ _ _ _ _ _ _, hq6.keep (hb6.keep9 (by decide) _ _ _ _ _ _ _ _ _), Ext.set9 (by (repeat (first | with_reducible assumption | with_reducible exact Ext.refl _ | with_reducible refine Ext.drew ?_ | with_reducible refine Ext.drewN ?_ _ | with_reducible refine Ext.alloc ?_ _ | with_reducible refine Ext.set2 ?_ (by omega) _ _ | with_reducible refine Ext.setCell ?_ (by first | omega | (simp; done) | (simp; omega)) _ | with_reducible refine Ext.trans ?_ (by with_reducible assumption)))) (Nat.le_refl _) _ _ _ _ _ _ _ _ _⟩
        case rest =>
          obtain ⟨g, s3, A3, n3, c3, s4, A4, n4, c4, rfl, hg, hBg, hqg, hEg⟩ := hcut
          have q6 := HC.out wc hEg
          have hwr8 : IntKind.i8.wrap r = r := IntWalk.i8_in _ (by omega)
          have hwrt : IntKind.i8.wrap (xd.tmod 2) = r := by rw [HR4.out]; exact hwr8
          have hrt := HR4.out
          have hisb := HISB.out
          clear q0 hwa ht8 hwm8 hwt8 hwm hy3 hwb8 hwbt hwb hwc
          have HBG := Lib.hid hBg
          have HQG := Lib.hid hqg
          have HEG := Lib.hid hEg
          clear hBg hqg hEg
          go_upto_if 52 with fail
          go_cut [] (fun wx => ∃ (s5 : Bool) (A5 : Option Addr) (n5 c5 : Nat), Blk wx g 62 #[.string ⟨(nameOf m).toArray⟩, .int .i64 y3, .bool s3, .slice A3 n3 c3, .bool s4, .slice A4 n4 c4, .bool isb, .bool s5, .slice A5 n5 c5] ∧ IsInt wx (.bool s5) (.slice A5 n5 c5) (if isb then z else 0) ∧ IsRat wx (.bool s3) (.slice A3 n3 c3) (.bool s4) (.slice A4 n4 c4) (mkRat xc 12) ∧ Ext wo wx)
          case first =>
            cases isb with
            | false =>
              go_wp2_with fail
              go_meet
              exact ⟨false, none, 0, 0, HBG.out, IsInt.zero _, HQG.out, HEG.out⟩
            | true =>
              have hwz8 : IntKind.i8.wrap z = z := IntWalk.i8_in _ (by omega)
              have hwzt : IntKind.i8.wrap (xd.tdiv 2) = z := by rw [HZ4.out]; exact hwz8
              have hwz : IntKind.i64.wrap z = z := IntWalk.i64_in _ (by omega)
              have hzt := HZ4.out
              go_wp2_with fail
              refine (Of1_any z wc (by omega) (by omega)).mono ?_
              rintro e w7 ⟨s5, A5, n5, c5, rfl, hm7, hE7⟩
              have hb7 := HBG.out.ext hE7
              have n7 := hb7.nine
              clear hwz8 hwzt hwz hzt
              go_wp2_with fail
              go_meet
              have hk : ∀ (ts : List TypeId) (hs : 62 ∉ ts) (a b c : Value), KeepT ts w7 (((w7.setCell ⟨g, 6, none⟩ a).setCell ⟨g, 7, none⟩ b).setCell ⟨g, 8, none⟩ c) := fun ts hs a b c => (((KeepT.refl _ w7).set (p := ⟨g, 6, none⟩) hb7.type hs _).set (p := ⟨g, 7, none⟩) (hb7.type.setCell _ _) hs _).set (p := ⟨g, 8, none⟩) ((hb7.type.setCell _ _).setCell _ _) hs _
              exact ⟨s5, A5, n5, c5, ((hb7.set_ 6 (.bool true)).set_ 7 (.bool s5)).set_ 8 (.slice A5 n5 c5), hm7.keep (hk _ (by decide) _ _ _), (HQG.out.ext hE7).keep (hk _ (by decide) _ _ _), (((HEG.out.trans hE7).setCell (p := ⟨g, 6, none⟩) hg _).setCell (p := ⟨g, 7, none⟩) hg _).setCell (p := ⟨g, 8, none⟩) hg _⟩
          case rest =>
            clear HBG HQG HEG q6 hwr8 hwrt hrt hisb
            obtain ⟨s5, A5, n5, c5, hBg, hv5, hq5, hE5⟩ := hcut
            obtain ⟨wd, rfl⟩ : ∃ wd : World, wd = wc := ⟨_, rfl⟩
            have f9 := hBg.nine
            have f5 := (hBo.out.ext hE5).five
            have HV5 := Lib.hid hv5
            have HQ5 := Lib.hid hq5
            have HE5 := Lib.hid hE5
            have hwd := hE5.size'
            have hgo2 := hBo.out.lt
            clear hBg hv5 hq5
            obtain ⟨ls, ho1, ho2⟩ := hO.out
            have hll := ho2.length
            rw [show ((qs.take i).map anyPart).length = i by simp; omega] at hll
            rw [hll] at ho1
            have HO1 := Lib.hid ho1
            have HO2 := Lib.hid ho2
            have HLL := Lib.hid hll
            have HOB := Lib.hid (own_block ho1)
            clear hO ho1 ho2 hll hE5
            go_wp2_with (with_reducible refine stop_at 67 ?_)
            refine wpList_append_rows rfl (.tmp 64) (.tmp 66) _ rfl (go + 1) 62 9 128 Tryz.underlying34 part_info (by decide) (.slice A0 i c0) i ls.flatten rfl (own_ext HO1.out (HE5.out.alloc _)) _ [[.string ⟨(nameOf m).toArray⟩, .int .i64 y3, .bool s3, .slice A3 n3 c3, .bool s4, .slice A4 n4 c4, .bool isb, .bool s5, .slice A5 n5 c5]] rfl (RowsOf.one_new _ _ _ rfl (part_cells_one _ _ _ _ _ _ _ _ _ _ _ _ _ _ _) rfl) (by simp; unfold maxLen; omega) (by simp; omega) (by simp; omega) ?_
            intro v7 w7 hown7 hgr7
            have hE7 : Ext w w7 := Ext.grown ((hEr.trans HE5.out).alloc _) hgr7 (fun k hk => by have := HOB.out k hk; omega)
            have hA7 : Blk w7 go 41 #[.slice A0 i c0, .bool s1, .slice A1 n1 c1, .bool s2, .slice A2 n2 c2] := Blk.grown ((hBo.out.ext HE5.out).alloc _) hgr7 (fun h => by have := HOB.out _ h.symm; omega)
            have hR7 : Blk w7 w.heap.size 41 #[.slice none 0 0, .bool false, .slice none 0 0, .bool false, .slice none 0 0] := Blk.grown ((hB0.out.ext HE5.out).alloc _) hgr7 (fun h => by have := HOB.out _ h.symm; omega)
            have hK7 : KeepT [136] wd w7 := (KeepT.ext ((Ext.refl _).alloc _)).trans (own_keep (own_ext HO1.out (HE5.out.alloc _)) hgr7 (by decide))
            have hz7 := hA7.five
            obtain ⟨g7, c7, rfl⟩ := own_succ (k := i) hown7
            have hO7 : OwnParts (go + 1) w7 (.slice (some ⟨g7, 0, none⟩) (i + 1) c7) ((qs.take (i + 1)).map anyPart) := by
              rw [hS.out, HPE.out]
              refine ⟨ls ++ [[.string ⟨(nameOf m).toArray⟩, .int .i64 y3, .bool s3, .slice A3 n3 c3, .bool s4, .slice A4 n4 c4, .bool isb, .bool s5, .slice A5 n5 c5]], ?_, (HO2.out.mono fun a b h => h.keep ((KeepT.ext HE5.out).trans hK7)).append (All2.one ⟨_, _, _, _, _, _, rfl, HQ5.out.keep hK7, HV5.out.keep hK7⟩)⟩
              rw [List.flatten_append, List.length_append, HLL.out]
              exact hown7
            obtain ⟨u7, hu7⟩ : ∃ u : Value, u = .slice (some ⟨g7, 0, none⟩) (i + 1) c7 := ⟨_, rfl⟩
            have hg7 := own_block hown7 g7 rfl
            have hO8 : OwnParts (go + 1) (w7.setCell ⟨go, 0, none⟩ u7) (.slice (some ⟨g7, 0, none⟩) (i + 1) c7) ((qs.take (i + 1)).map anyPart) := by
              obtain ⟨ls', p1, p2⟩ := hO7
              exact ⟨ls', own_far p1 (p := ⟨go, 0, none⟩) (fun g hg => by have e : g7 = g := Option.some.inj hg; show g ≠ go; omega) _, p2.mono fun a b h => h.keep ((KeepT.refl _ _).set (p := ⟨go, 0, none⟩) hA7.type (by decide) _)⟩
            have hA8 : Blk (w7.setCell ⟨go, 0, none⟩ u7) go 41 #[u7, .bool s1, .slice A1 n1 c1, .bool s2, .slice A2 n2 c2] := hA7.set_ 0 u7
            have hK8 : KeepT [136] w3 (w7.setCell ⟨go, 0, none⟩ u7) := ((hK.out.trans (KeepT.ext HE5.out)).trans hK7).set (p := ⟨go, 0, none⟩) hA7.type (by decide) _
            have hR8 := hR7.far (p := ⟨go, 0, none⟩) (by show w.heap.size ≠ go; omega) u7
            have hE8 := hE7.setCell (p := ⟨go, 0, none⟩) (by show w.heap.size ≤ go; omega) u7
            rw [hu7] at hA8 hK8 hR8 hE8 hO8
            clear hown7 hgr7 hO7 f9 f5
            have HA8 := Lib.hid hA8
            have HK8 := Lib.hid hK8
            have HR8 := Lib.hid hR8
            have HO8 := Lib.hid hO8
            have HE8 := Lib.hid hE8
            clear hA8 hK8 hR8 hO8 hE8 hA7 hR7 hK7 hu7 hE7
            go_wp2
            exact ⟨⟨i + 1, some ⟨g7, 0, none⟩, c7, by go_num, by omega, by omega, HA8, HO8, HK8, HR8, HE8.out⟩, by (simp [intOf] <;> omega)⟩
    · have hex := Lib.hid (show (qs.take i).map anyPart = anyParts qs by
        unfold anyParts
        by_cases h : i < qs.length
        · rw [show i = 20 by omega]
        · rw [List.take_of_length_le (by omega), List.take_of_length_le (by omega)])
      have key : ((i : Int) < (qs.length : Int) ∧ ¬ (i : Int) < 20) ∨ ¬ (i : Int) < (qs.length : Int) := by omega
      have q0 := hBo.out.five
      have q1 := hB0.out.five
      have hP := (hO.out.is).keep ((KeepT.refl [62, 136] wo).set5 hB0.out.type (by decide) (.slice A0 i c0) (.bool s1) (.slice A1 n1 c1) (.bool s2) (.slice A2 n2 c2))
      have hQ := (HQT.out.keep hK.out).keep ((KeepT.refl [136] wo).set5 hB0.out.type (by decide) (.slice A0 i c0) (.bool s1) (.slice A1 n1 c1) (.bool s2) (.slice A2 n2 c2))
      have hX := hEr.set5 (Nat.le_refl _) (.slice A0 i c0) (.bool s1) (.slice A1 n1 c1) (.bool s2) (.slice A2 n2 c2)
      rw [hex.out] at hP
      have HP := Lib.hid hP
      have HQQ := Lib.hid hQ
      have HX := Lib.hid hX
      clear hP hQ hX
      rcases key with ⟨k1, k2⟩ | k1
      all_goals
        go_wp2
        refine bodyPost_ret (v := .agg #[.slice A0 i c0, .bool s1, .slice A1 n1 c1, .bool s2, .slice A2 n2 c2]) (by simp [results, Tryz.results15, go_sem, q1]) rfl ?_
        exact ⟨.slice A0 i c0, .bool s1, .slice A1 n1 c1, .bool s2, .slice A2 n2 c2, rfl, HP.out, HQQ.out, HX.out⟩

end Go.Proofs.YtddgjlfniabehaaGreatDoor
