/-
  kronecker.worth.
-/
import Derived.Test.YtekipapkcgoieaaGreatDoorJ16b
import Derived.Test.YtekipapkcgoieaaGreatDoorJ13
import Derived.Test.YtekipapkcgoieaaGreatDoorJ07
set_option linter.unusedVariables false
set_option linter.unusedSimpArgs false

/- kronecker.worth. -/
namespace Go.Proofs.YtekipapkcgoieaaGreatDoor
open Go.RowKit
attribute [local go_sem ↓] Go.wp_at_zero Go.wp_at_succ
attribute [local go_sem ↓] load_entry store_entry

/-- What a part is worth, if it is known. -/
def RWorth (w : World) (o : Option Rat) (e : Ending) (w' : World) : Prop := ∃ (s : Bool) (A : Option Addr) (n c : Nat) (s' : Bool) (A' : Option Addr) (n' c' : Nat),
  e = .returned (.tuple #[.agg #[.bool s, .slice A n c, .bool s', .slice A' n' c'], .bool o.isSome]) ∧ (∀ q, o = some q → IsRat w' (.bool s) (.slice A n c) (.bool s') (.slice A' n' c') q) ∧ Ext w w'

theorem IsRat.whole {w : World} {a b c d : Value} {x : Int} (h1 : IsInt w a b x) (h2 : IsInt w c d 1) : IsRat w a b c d (x : Rat) := ⟨by rw [Rat.num_intCast]; exact h1, by rw [Rat.den_intCast]; exact h2⟩
theorem icmp_eq0 (x y : Int) : (icmp x y == 0) = decide (x = y) := by
  unfold icmp
  rw [Bool.eq_iff_iff]
  simp
  split
  · omega
  · split <;> omega
set_option maxRecDepth 100000 in
set_option maxHeartbeats 4000000 in
theorem worth_any (s1 v1 s2 v2 s3 v3 sv gv : Value) (p : PartD) (hs : List HeldD) (g : List Int) (w : World) (hlen : hs.length ≤ 100000) (hgl : g.length ≤ 100000000) (hok : ∀ h ∈ hs, HeldOk h) (hp : PartOk p)
    (h1 : IsRat w s1 v1 s2 v2 p.c) (h2 : IsInt w s3 v3 p.v) (h3 : IsShelf w sv hs) (h4 : IsNums w gv g) :
    Calls Tryz.prog 75 #[.agg #[.string ⟨p.name.toArray⟩, .int .i64 p.at_, s1, v1, s2, v2, .bool p.is, s3, v3], .agg #[sv], gv] w (RWorth w (partVal (best hs p.name g) p)) := by
  obtain ⟨s1, A1, n1, c1, s2, A2, n2, c2, rfl, rfl, rfl, rfl⟩ := h1.form
  obtain ⟨s3, A3, n3, c3, rfl, rfl, -, -, -⟩ := h2.form
  obtain ⟨A, c, rfl⟩ := h3.shape
  have H1 := Lib.hid h1
  have H2 := Lib.hid h2
  have H3 := Lib.hid h3
  have H4 := Lib.hid h4
  have HO := Lib.hid hok
  have hpn := hp.num
  have hpd := hp.den
  have hpv := hp.val
  clear h1 h2 h3 h4 hok hp
  obtain ⟨nm, at_, cc, is, pv⟩ := p
  simp only at hpn hpd hpv
  go_enter Tryz.func75, Tryz.ntmps75
  go_wp2_with fail
  obtain ⟨W, hW⟩ : ∃ W : World, W = ((w.alloc (.cells #[.string ⟨nm.toArray⟩, .int .i64 at_, .bool s1, .slice A1 n1 c1, .bool s2, .slice A2 n2 c2, .bool is, .bool s3, .slice A3 n3 c3] 45)).alloc (.cells #[.slice A hs.length c] 30)).alloc (.cells #[.bool false, .slice none 0 0, .bool false, .slice none 0 0] 39) := ⟨_, rfl⟩
  rw [← hW]
  have hE : Ext w W := by rw [hW]; exact (((Ext.refl w).alloc _).alloc _).alloc _
  have hBp : Blk W w.heap.size 45 #[.string ⟨nm.toArray⟩, .int .i64 at_, .bool s1, .slice A1 n1 c1, .bool s2, .slice A2 n2 c2, .bool is, .bool s3, .slice A3 n3 c3] := by rw [hW]; exact ((Blk.newAt _ _ _ (by simp)).alloc _).alloc _
  have hBr : Blk W (w.heap.size + 1 + 1) 39 #[.bool false, .slice none 0 0, .bool false, .slice none 0 0] := by rw [hW]; exact Blk.newAt _ _ _ (by simp)
  clear hW
  refine (BestK_any _ _ nm hs g W hlen hgl (fun h hh => (HO.out h hh).2.1) (H3.out.ext hE) (H4.out.ext hE)).mono ?_
  rintro e w1 ⟨es, rfl, hel, heo, hex, he1⟩
  have hl1 := (hBr.ext he1).lt
  have rs := run_store_entry (w1.alloc (.cells entry0.toArray 77)) w1.heap.size 0 es hel ((Blk.newAt w1 77 entry0.toArray rfl).there rfl) heo
  unfold entry0 at rs
  go_upto_region 2 with fail
  change Code.wp _ _ _ _ ((w1.alloc (.cells entry0.toArray 77)).setCells w1.heap.size 0 es)
  obtain ⟨w2, hw2⟩ : ∃ w2 : World, w2 = (w1.alloc (.cells entry0.toArray 77)).setCells w1.heap.size 0 es := ⟨_, rfl⟩
  rw [← hw2]
  have hE12 : Ext w1 w2 := by rw [hw2]; exact ((Ext.refl w1).alloc _).setCells es (Nat.le_refl _) 0
  have hBe : Blk w2 w1.heap.size 77 es.toArray := by rw [hw2]; exact (Blk.newAt w1 77 entry0.toArray rfl).setAll hel
  have hx2 : Ext W w2 := he1.trans hE12
  clear hw2 rs
  generalize w1.heap.size = ge at *
  have hM : ∀ x, best hs nm g = some x → x ∈ hs := fun x hx => best_mem hx
  generalize best hs nm g = bo at *
  have hp2 := hBp.ext hx2
  have i1 : w2.cell? ⟨w.heap.size, 1, none⟩ = some (.int .i64 at_) := hp2.cell 1
  have i2 : w2.cell? ⟨w.heap.size, 2, none⟩ = some (.bool s1) := hp2.cell 2
  have i3 : w2.cell? ⟨w.heap.size, 3, none⟩ = some (.slice A1 n1 c1) := hp2.cell 3
  have i4 : w2.cell? ⟨w.heap.size, 4, none⟩ = some (.bool s2) := hp2.cell 4
  have i5 : w2.cell? ⟨w.heap.size, 5, none⟩ = some (.slice A2 n2 c2) := hp2.cell 5
  have i6 : w2.cell? ⟨w.heap.size, 6, none⟩ = some (.bool is) := hp2.cell 6
  have i7 : w2.cell? ⟨w.heap.size, 7, none⟩ = some (.bool s3) := hp2.cell 7
  have i8 : w2.cell? ⟨w.heap.size, 8, none⟩ = some (.slice A3 n3 c3) := hp2.cell 8
  have hbr2 := hBr.ext hx2
  have yw2 := hbr2.four
  cases bo with
  | none =>
    have hisn : (none : Option HeldD).isSome = false := rfl
    rw [hisn]
    go_wp2
    refine bodyPost_ret (v := .tuple #[.agg #[.bool false, .slice none 0 0, .bool false, .slice none 0 0], .bool false]) (by simp [results, Tryz.results75, go_sem, yw2]) rfl ?_
    exact ⟨_, _, _, _, _, _, _, _, rfl, (fun q hq => by cases hq), (hE.trans hx2).set4 (by omega) _ _ _ _⟩
  | some h =>
    have hh := hM h rfl
    obtain ⟨o1, o2, o3⟩ := HO.out h hh
    have hent := hex h rfl
    obtain ⟨-, -, -, ⟨V, hV1, hV2⟩, -⟩ := hent
    obtain ⟨lv, hR, hA⟩ := hV2
    obtain ⟨B, d, rfl⟩ := hR.shape
    have hlv := hA.length
    have e1 : w2.cell? ⟨ge, 1, none⟩ = some (.slice B lv.length d) := (hBe.cell 1).trans (by simpa using hV1)
    have hiss : (some h : Option HeldD).isSome = true := rfl
    rw [hiss]
    have hPV := Lib.hid (show partVal (some h) ⟨nm, at_, cc, is, pv⟩ = if 0 ≤ at_ ∧ at_ < h.vals.length then some (if is then (if h.vals[at_.toNat]?.getD 0 = pv then cc else 0) else cc * ((h.vals[at_.toNat]?.getD 0 : Int) : Rat)) else none from rfl)
    have HR := Lib.hid hR
    have HA := Lib.hid hA
    clear hR hA hM hex
    by_cases hin : 0 ≤ at_ ∧ at_ < h.vals.length
    · obtain ⟨k, rfl⟩ : ∃ k : Nat, at_ = (k : Int) := ⟨at_.toNat, by omega⟩
      have hkl : k < lv.length := by omega
      have hkv : k < h.vals.length := by omega
      obtain ⟨b2, o2', rfl, hb2, hrow⟩ := HR.out.row k hkl
      have hget := HA.out.get k _ _ (List.getElem?_eq_getElem hkl) (List.getElem?_eq_getElem hkv)
      obtain ⟨bx, ux, hlk, hix⟩ := hget
      obtain ⟨s4, A4, n4, c4, rfl, rfl, -, -, -⟩ := hix.form
      have hxb := o3 _ (List.getElem_mem hkv)
      have hPV2 := Lib.hid (show partVal (some h) ⟨nm, (k : Int), cc, is, pv⟩ = some (if is then (if h.vals[k] = pv then cc else 0) else cc * ((h.vals[k] : Int) : Rat)) by rw [hPV.out, if_pos hin, Int.toNat_natCast, List.getElem?_eq_getElem hkv]; rfl)
      generalize h.vals[k] = x at *
      have z2 : w2.cell? ⟨b2, o2' + k * 2, none⟩ = some (.bool s4) ∧ w2.cell? ⟨b2, o2' + k * 2 + 1, none⟩ = some (.slice A4 n4 c4) := by
        have hr := hrow w2 (KeepT.ext hE12)
        rw [hlk] at hr
        exact ⟨hr 0 _ rfl, hr 1 _ rfl⟩
      have HIX := Lib.hid (hix.ext hE12)
      clear hrow hlk hix hPV HR HA
      have ha0 : ¬ (k : Int) < 0 := by omega
      have ha1 : ¬ (lv.length : Int) ≤ (k : Int) := by omega
      have lx := wordsOf_len1 (show x.natAbs < 4294967296 by omega)
      have lp := wordsOf_len1 (show pv.natAbs < 4294967296 by omega)
      clear yw2
      go_upto_region 5 with fail
      obtain ⟨w4, hw4⟩ : ∃ w4 : World, w4 = w2.alloc (.cells #[.bool s4, .slice A4 n4 c4] 37) := ⟨_, rfl⟩
      rw [← hw4]
      have he4 : Ext w2 w4 := by rw [hw4]; exact (Ext.refl _).alloc _
      have hB7 : Blk w4 w2.heap.size 37 #[.bool s4, .slice A4 n4 c4] := by rw [hw4]; exact Blk.newAt _ _ _ rfl
      have HX4 := Lib.hid (HIX.out.ext he4)
      have hgr0 := hbr2.lt
      clear hw4
      generalize w2.heap.size = gr at *
      have hx4 : Ext W w4 := hx2.trans he4
      clear i1 i2 i3 i4 i5 i6 i7 i8 z2 e1 hbr2
      have hp4 := hBp.ext hx4
      have i6 : w4.cell? ⟨w.heap.size, 6, none⟩ = some (.bool is) := hp4.cell 6
      cases is with
      | false =>
        have hnn : (cc.num * (x : Rat).num).natAbs ≤ 18446744073709551615 := by
          rw [Rat.num_intCast, Int.natAbs_mul]
          exact Nat.le_trans (Nat.mul_le_mul hpn hxb) (by omega)
        have HK : Hid (∀ w', Ext w4 w' → w'.cell? ⟨w.heap.size, 2, none⟩ = some (.bool s1) ∧ w'.cell? ⟨w.heap.size, 3, none⟩ = some (.slice A1 n1 c1) ∧ w'.cell? ⟨w.heap.size, 4, none⟩ = some (.bool s2) ∧ w'.cell? ⟨w.heap.size, 5, none⟩ = some (.slice A2 n2 c2) ∧ w'.cell? ⟨gr, 0, none⟩ = some (.bool s4) ∧ w'.cell? ⟨gr, 1, none⟩ = some (.slice A4 n4 c4)) := fun w' hw => ⟨(hp4.ext hw).cell 2, (hp4.ext hw).cell 3, (hp4.ext hw).cell 4, (hp4.ext hw).cell 5, (hB7.ext hw).cell 0, (hB7.ext hw).cell 1⟩
        have hgr : gr ≠ w.heap.size + 1 + 1 := by omega
        have HK2 : Hid (∀ w'' w' : World, Ext w4 w' → ∀ a b c d : Value, w'' = (((w'.setCell ⟨w.heap.size + 1 + 1, 0, none⟩ a).setCell ⟨w.heap.size + 1 + 1, 1, none⟩ b).setCell ⟨w.heap.size + 1 + 1, 2, none⟩ c).setCell ⟨w.heap.size + 1 + 1, 3, none⟩ d → w''.cell? ⟨w.heap.size, 2, none⟩ = some (.bool s1) ∧ w''.cell? ⟨w.heap.size, 3, none⟩ = some (.slice A1 n1 c1) ∧ w''.cell? ⟨w.heap.size, 4, none⟩ = some (.bool s2) ∧ w''.cell? ⟨w.heap.size, 5, none⟩ = some (.slice A2 n2 c2) ∧ w''.cell? ⟨gr, 0, none⟩ = some (.bool s4) ∧ w''.cell? ⟨gr, 1, none⟩ = some (.slice A4 n4 c4)) := fun w'' w' hw a b c d ew => by
          subst ew
          have f1 := ((((hp4.ext hw).far (p := ⟨w.heap.size + 1 + 1, 0, none⟩) (by show w.heap.size ≠ w.heap.size + 1 + 1; omega) a).far (p := ⟨w.heap.size + 1 + 1, 1, none⟩) (by show w.heap.size ≠ w.heap.size + 1 + 1; omega) b).far (p := ⟨w.heap.size + 1 + 1, 2, none⟩) (by show w.heap.size ≠ w.heap.size + 1 + 1; omega) c).far (p := ⟨w.heap.size + 1 + 1, 3, none⟩) (by show w.heap.size ≠ w.heap.size + 1 + 1; omega) d
          have f2 := ((((hB7.ext hw).far (p := ⟨w.heap.size + 1 + 1, 0, none⟩) hgr a).far (p := ⟨w.heap.size + 1 + 1, 1, none⟩) hgr b).far (p := ⟨w.heap.size + 1 + 1, 2, none⟩) hgr c).far (p := ⟨w.heap.size + 1 + 1, 3, none⟩) hgr d
          exact ⟨f1.cell 2, f1.cell 3, f1.cell 4, f1.cell 5, f2.cell 0, f2.cell 1⟩
        have HMUL := Lib.hid (fun (w' : World) (t7 t8 : Value) (he : Ext w4 w') (h7 : IsInt w' t7 t8 1) => rmul_any (.bool s1) (.slice A1 n1 c1) (.bool s2) (.slice A2 n2 c2) (.bool s4) (.slice A4 n4 c4) t7 t8 cc (x : Rat) w' (by omega) (by rw [Rat.num_intCast]; omega) (by rw [Rat.den_intCast]; omega) hnn (H1.out.ext (hE.trans (hx4.trans he))) (IsRat.whole (HX4.out.ext he) h7))
        clear hnn
        go_upto_region 6 with fail
        go_region_held3 (fun w' => w'.cell? ⟨w.heap.size, 2, none⟩ = some (.bool s1) ∧ w'.cell? ⟨w.heap.size, 3, none⟩ = some (.slice A1 n1 c1) ∧ w'.cell? ⟨w.heap.size, 4, none⟩ = some (.bool s2) ∧ w'.cell? ⟨w.heap.size, 5, none⟩ = some (.slice A2 n2 c2) ∧ w'.cell? ⟨gr, 0, none⟩ = some (.bool s4) ∧ w'.cell? ⟨gr, 1, none⟩ = some (.slice A4 n4 c4))
          (first | (refine HK.out _ ?_; (repeat (first | with_reducible assumption | with_reducible exact Ext.refl _ | with_reducible refine Ext.drew ?_ | with_reducible refine Ext.drewN ?_ _ | with_reducible refine Ext.alloc ?_ _ | with_reducible refine Ext.set2 ?_ (by omega) _ _ | with_reducible refine Ext.setCell ?_ (by first | omega | (simp; done) | (simp; omega)) _ | with_reducible refine Ext.trans ?_ (by with_reducible assumption))); done) | (refine HK2.out _ _ ?_ _ _ _ _ rfl; (repeat (first | with_reducible assumption | with_reducible exact Ext.refl _ | with_reducible refine Ext.drew ?_ | with_reducible refine Ext.drewN ?_ _ | with_reducible refine Ext.alloc ?_ _ | with_reducible refine Ext.set2 ?_ (by omega) _ _ | with_reducible refine Ext.setCell ?_ (by first | omega | (simp; done) | (simp; omega)) _ | with_reducible refine Ext.trans ?_ (by with_reducible assumption))); done))
          (first | (go_at_call 45; (with_reducible refine (Of_any 1 _ (by omega) (by omega)).mono ?_); rintro e w5 ⟨s7, A7, k7, c7, rfl, hm7, he7⟩) | (go_at_call 108; (with_reducible refine (HMUL.out _ _ _ ?q1 ?q2).mono ?_); (case q1 => (repeat (first | with_reducible assumption | with_reducible exact Ext.refl _ | with_reducible refine Ext.drew ?_ | with_reducible refine Ext.drewN ?_ _ | with_reducible refine Ext.alloc ?_ _ | with_reducible refine Ext.set2 ?_ (by omega) _ _ | with_reducible refine Ext.setCell ?_ (by first | omega | (simp; done) | (simp; omega)) _ | with_reducible refine Ext.trans ?_ (by with_reducible assumption)))); (case q2 => (refine IsInt.ext hm7 ?_; (repeat (first | with_reducible assumption | with_reducible exact Ext.refl _ | with_reducible refine Ext.drew ?_ | with_reducible refine Ext.drewN ?_ _ | with_reducible refine Ext.alloc ?_ _ | with_reducible refine Ext.set2 ?_ (by omega) _ _ | with_reducible refine Ext.setCell ?_ (by first | omega | (simp; done) | (simp; omega)) _ | with_reducible refine Ext.trans ?_ (by with_reducible assumption))))); rintro e w9 ⟨s5, A5, k5, c5, s6, A6, k6, c6, rfl, hq5, he5⟩; have hbrw9 := (hBr.ext hx4).ext (show Ext w4 w9 by (repeat (first | with_reducible assumption | with_reducible exact Ext.refl _ | with_reducible refine Ext.drew ?_ | with_reducible refine Ext.drewN ?_ _ | with_reducible refine Ext.alloc ?_ _ | with_reducible refine Ext.set2 ?_ (by omega) _ _ | with_reducible refine Ext.setCell ?_ (by first | omega | (simp; done) | (simp; omega)) _ | with_reducible refine Ext.trans ?_ (by with_reducible assumption)))); have yw9 := hbrw9.four))
        have hx9 : Ext W w9 := hx4.trans (by (repeat (first | with_reducible assumption | with_reducible exact Ext.refl _ | with_reducible refine Ext.drew ?_ | with_reducible refine Ext.drewN ?_ _ | with_reducible refine Ext.alloc ?_ _ | with_reducible refine Ext.set2 ?_ (by omega) _ _ | with_reducible refine Ext.setCell ?_ (by first | omega | (simp; done) | (simp; omega)) _ | with_reducible refine Ext.trans ?_ (by with_reducible assumption))))
        go_wp2
        refine bodyPost_ret (v := .tuple #[.agg #[.bool s5, .slice A5 k5 c5, .bool s6, .slice A6 k6 c6], .bool true]) (by simp [results, Tryz.results75, go_sem, yw9]) rfl ?_
        rw [hPV2.out]
        exact ⟨s5, A5, k5, c5, s6, A6, k6, c6, rfl, (fun q hq => by injection hq with hq; subst hq; exact ⟨hq5.1.set4 hbrw9.type (by decide) _ _ _ _, hq5.2.set4 hbrw9.type (by decide) _ _ _ _⟩), (hE.trans hx9).set4 (by omega) _ _ _ _⟩
      | true =>
        have i7 : w4.cell? ⟨w.heap.size, 7, none⟩ = some (.bool s3) := hp4.cell 7
        have i8 : w4.cell? ⟨w.heap.size, 8, none⟩ = some (.slice A3 n3 c3) := hp4.cell 8
        have j7 := hB7.two
        go_wp2_with fail
        refine (iCmp_any _ _ _ _ x pv w4 (by omega) (by omega) HX4.out (H2.out.ext (hE.trans hx4))).mono ?_
        rintro e w5 ⟨rfl, he5⟩
        have hx5 : Ext W w5 := hx4.trans he5
        have hp5 := hBp.ext hx5
        clear i6 i7 i8 j7
        have i2 : w5.cell? ⟨w.heap.size, 2, none⟩ = some (.bool s1) := hp5.cell 2
        have i3 : w5.cell? ⟨w.heap.size, 3, none⟩ = some (.slice A1 n1 c1) := hp5.cell 3
        have i4 : w5.cell? ⟨w.heap.size, 4, none⟩ = some (.bool s2) := hp5.cell 4
        have i5 : w5.cell? ⟨w.heap.size, 5, none⟩ = some (.slice A2 n2 c2) := hp5.cell 5
        have hcmp := Lib.hid (icmp_eq0 x pv)
        obtain ⟨d0, hd0⟩ : ∃ d0 : Int, icmp x pv = d0 := ⟨_, rfl⟩
        rw [hd0] at hcmp ⊢
        clear hd0
        by_cases hxe : x = pv
        · have hd : (d0 == 0) = true := by rw [hcmp.out]; simpa using hxe
          have hqc := H1.out.ext (hE.trans hx5)
          have hbrw5 := hBr.ext hx5
          have yw5 := hbrw5.four
          go_wp2
          refine bodyPost_ret (v := .tuple #[.agg #[.bool s1, .slice A1 n1 c1, .bool s2, .slice A2 n2 c2], .bool true]) (by simp [results, Tryz.results75, go_sem, yw5]) rfl ?_
          rw [hPV2.out, if_pos trivial, if_pos hxe]
          exact ⟨s1, A1, n1, c1, s2, A2, n2, c2, rfl, (fun q hq => by injection hq with hq; subst hq; exact ⟨hqc.1.set4 hbrw5.type (by decide) _ _ _ _, hqc.2.set4 hbrw5.type (by decide) _ _ _ _⟩), (hE.trans hx5).set4 (by omega) _ _ _ _⟩
        · have hd : (d0 == 0) = false := by rw [hcmp.out]; simpa using hxe
          have hZ : ∀ w', Calls Tryz.prog 34 #[.int .i64 0, .int .i64 1] w' (RRat w' 0) := fun w' => by
            have := fraction_any 0 1 w' (by omega) (by omega) (by omega) (by omega)
            rwa [show mkRat 0 1 = 0 by rfl] at this
          have HZ := Lib.hid hZ
          clear hZ
          go_wp2_with fail
          refine (HZ.out w5).mono ?_
          rintro e w9 ⟨s5, A5, k5, c5, s6, A6, k6, c6, rfl, hq5, he9⟩
          have hx9 : Ext W w9 := hx5.trans he9
          have hbrw9 := hBr.ext hx9
          have yw9 := hbrw9.four
          go_wp2
          refine bodyPost_ret (v := .tuple #[.agg #[.bool s5, .slice A5 k5 c5, .bool s6, .slice A6 k6 c6], .bool true]) (by simp [results, Tryz.results75, go_sem, yw9]) rfl ?_
          rw [hPV2.out, if_pos trivial, if_neg hxe]
          exact ⟨s5, A5, k5, c5, s6, A6, k6, c6, rfl, (fun q hq => by injection hq with hq; subst hq; exact ⟨hq5.1.set4 hbrw9.type (by decide) _ _ _ _, hq5.2.set4 hbrw9.type (by decide) _ _ _ _⟩), (hE.trans hx9).set4 (by omega) _ _ _ _⟩
    · have hPN := Lib.hid (show partVal (some h) ⟨nm, at_, cc, is, pv⟩ = none by rw [hPV.out, if_neg hin])
      by_cases ha0 : at_ < 0
      · skip
        go_wp2
        refine bodyPost_ret (v := .tuple #[.agg #[.bool false, .slice none 0 0, .bool false, .slice none 0 0], .bool false]) (by simp [results, Tryz.results75, go_sem, yw2]) rfl ?_
        rw [hPN.out]
        exact ⟨_, _, _, _, _, _, _, _, rfl, (fun q hq => by cases hq), (hE.trans hx2).set4 (by omega) _ _ _ _⟩
      · have ha1 : (lv.length : Int) ≤ at_ := by omega
        go_wp2
        refine bodyPost_ret (v := .tuple #[.agg #[.bool false, .slice none 0 0, .bool false, .slice none 0 0], .bool false]) (by simp [results, Tryz.results75, go_sem, yw2]) rfl ?_
        rw [hPN.out]
        exact ⟨_, _, _, _, _, _, _, _, rfl, (fun q hq => by cases hq), (hE.trans hx2).set4 (by omega) _ _ _ _⟩

end Go.Proofs.YtekipapkcgoieaaGreatDoor
