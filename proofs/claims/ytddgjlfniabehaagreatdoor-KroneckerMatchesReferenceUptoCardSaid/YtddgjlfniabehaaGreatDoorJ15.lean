/-
  R38.Sum.
-/
import Derived.Test.YtddgjlfniabehaaGreatDoorJ14
import Derived.Test.YtddgjlfniabehaaGreatDoorJ10
import Derived.Test.YtddgjlfniabehaaGreatDoorJ07
import Derived.Deep.RegionLaw
set_option linter.unusedVariables false
set_option linter.unusedSimpArgs false

/- R38.Sum. -/
namespace Go.Proofs.YtddgjlfniabehaaGreatDoor
open Go.RowKit
attribute [local go_sem ↓] Go.wp_at_zero Go.wp_at_succ

/-- A part of an audit: twelfths. -/
structure PartTw (p : PartD) : Prop where
  c : Tw 1000 p.c
  val : p.v.natAbs ≤ 1000000000
theorem PartTw.ok {p : PartD} (h : PartTw p) : PartOk p := ⟨Nat.le_trans h.c.num (by decide), Nat.le_trans h.c.den (by decide), h.val⟩
def sumVal (hs : List HeldD) (g : List Int) (ps : List PartD) : Rat := ps.foldl (fun s p => s + (partVal (best hs p.name g) p).getD 0) 0
def sumMissR (hs : List HeldD) (g : List Int) (ps : List PartD) : List (List UInt8) := ps.foldl (fun m p => if (partVal (best hs p.name g) p).isSome then m else sortedOf (m ++ [p.name])) []
theorem sumVal_succ (hs : List HeldD) (g : List Int) (ps : List PartD) (k : Nat) (hk : k < ps.length) : sumVal hs g (ps.take (k + 1)) = sumVal hs g (ps.take k) + (partVal (best hs ps[k].name g) ps[k]).getD 0 := by
  unfold sumVal
  rw [List.take_succ_eq_append_getElem hk, List.foldl_append]; rfl
theorem sumMissR_succ (hs : List HeldD) (g : List Int) (ps : List PartD) (k : Nat) (hk : k < ps.length) : sumMissR hs g (ps.take (k + 1)) = if (partVal (best hs ps[k].name g) ps[k]).isSome then sumMissR hs g (ps.take k) else sortedOf (sumMissR hs g (ps.take k) ++ [ps[k].name]) := by
  unfold sumMissR
  rw [List.take_succ_eq_append_getElem hk, List.foldl_append]; rfl
theorem strs_snoc {base : Nat} {w : World} {v : Value} {ms : List (List UInt8)} {nm : List UInt8} (h : w.ownsRow base 9 1 v ((cellsS ms).length + 1) ((cellsS ms).flatten ++ [Value.string ⟨nm.toArray⟩])) : OwnStrs base w v (ms ++ [nm]) := by
  unfold OwnStrs
  have e : cellsS (ms ++ [nm]) = cellsS ms ++ [[Value.string ⟨nm.toArray⟩]] := by simp [cellsS]
  rw [e, List.flatten_append, List.length_append]
  exact h
theorem sumMissR_len (hs : List HeldD) (g : List Int) (ps : List PartD) : (sumMissR hs g ps).length ≤ ps.length := by
  have key : ∀ (ps : List PartD) (m : List (List UInt8)), (ps.foldl (fun m p => if (partVal (best hs p.name g) p).isSome then m else sortedOf (m ++ [p.name])) m).length ≤ m.length + ps.length := by
    intro ps
    induction ps with
    | nil => intro m; exact Nat.le_refl _
    | cons p ps ih =>
      intro m
      refine Nat.le_trans (ih _) ?_
      dsimp only
      split
      · simp
      · have := sortedOf_len (m ++ [p.name])
        simp at this ⊢
        omega
  have := key ps []
  simpa [sumMissR] using this
theorem partVal_tw {hs : List HeldD} {g : List Int} {p : PartD} (hok : ∀ h ∈ hs, HeldOk h) (hp : PartTw p) : Tw 1000000000000 ((partVal (best hs p.name g) p).getD 0) := by
  cases hb : best hs p.name g with
  | none => exact Tw.zero _
  | some h =>
    unfold partVal
    dsimp only
    split
    · rename_i hin
      obtain ⟨k, hk⟩ : ∃ k : Nat, p.at_ = (k : Int) := ⟨p.at_.toNat, by omega⟩
      rw [hk] at hin ⊢
      have hkv : k < h.vals.length := by omega
      rw [Int.toNat_natCast, List.getElem?_eq_getElem hkv]
      show Tw _ (if p.is = true then (if h.vals[k] = p.v then p.c else 0) else p.c * ((h.vals[k] : Int) : Rat))
      split
      · split
        · exact hp.c.mono (by decide)
        · exact Tw.zero _
      · exact hp.c.mul ((hok h (best_mem hb)).2.2 _ (List.getElem_mem hkv))
    · exact Tw.zero _
theorem sumVal_tw {hs : List HeldD} {g : List Int} {ps : List PartD} (hok : ∀ h ∈ hs, HeldOk h) (hp : ∀ p ∈ ps, PartTw p) : ∀ k, k ≤ ps.length → Tw (k * 1000000000000) (sumVal hs g (ps.take k))
  | 0, _ => by simp [sumVal]; exact Tw.zero _
  | k + 1, h => by
    rw [sumVal_succ hs g ps k (by omega)]
    exact ((sumVal_tw hok hp k (by omega)).add (partVal_tw hok (hp _ (List.getElem_mem (show k < ps.length by omega))))).mono (by omega)

set_option maxRecDepth 100000 in
set_option maxHeartbeats 4000000 in
theorem Sum38_any (av a b c' d sv gv : Value) (ps : List PartD) (tt : Rat) (hs : List HeldD) (g : List Int) (w : World) (hpl : ps.length ≤ 5000) (hlen : hs.length ≤ 100000) (hgl : g.length ≤ 100000000) (hok : ∀ h ∈ hs, HeldOk h) (hp : ∀ p ∈ ps, PartTw p)
    (h0 : IsParts w av ps) (h1 : IsRat w a b c' d tt) (h3 : IsShelf w sv hs) (h4 : IsNums w gv g) :
    Calls Tryz.prog 17 #[.agg #[av, a, b, c', d], .agg #[sv], gv] w fun e w' => ∃ (a b c d m : Value), e = .returned (.agg #[a, b, c, d, m]) ∧ IsRat w' a b c d (sumVal hs g ps) ∧ IsStrs w' m (sumMissR hs g ps) ∧ Ext w w' := by
  obtain ⟨A0, n0, rfl⟩ := h0.shape
  obtain ⟨s1, A1, n1, c1, s2, A2, n2, c2, rfl, rfl, rfl, rfl⟩ := h1.form
  obtain ⟨A, c, rfl⟩ := h3.shape
  have H3 := Lib.hid h3
  have H4 := Lib.hid h4
  have HO := Lib.hid hok
  have HP := Lib.hid hp
  have HS := Lib.hid (sumVal_tw (g := g) hok hp)
  obtain ⟨ls, hR, hA⟩ := h0
  have hll := hA.length
  have HR := Lib.hid hR
  have HA := Lib.hid hA
  clear h1 h3 h4 hok hp hR hA
  have hZ : ∀ w', Calls Tryz.prog 22 #[.int .i64 0, .int .i64 1] w' (RRat w' 0) := fun w' => by
    have := rOf1_any 0 1 w' (by omega) (by omega) (by omega) (by omega)
    rwa [show mkRat 0 1 = 0 by rfl] at this
  have HZ := Lib.hid hZ
  clear hZ
  go_enter Tryz.func17, Tryz.ntmps17
  go_wp2_with fail
  obtain ⟨W, hW⟩ : ∃ W : World, W = ((w.alloc (.cells #[.slice A0 ps.length n0, .bool s1, .slice A1 n1 c1, .bool s2, .slice A2 n2 c2] 41)).alloc (.cells #[.slice A hs.length c] 30)).alloc (.cells #[.bool false, .slice none 0 0, .bool false, .slice none 0 0, .slice none 0 0] 54) := ⟨_, rfl⟩
  rw [← hW]
  have hE : Ext w W := by rw [hW]; exact (((Ext.refl w).alloc _).alloc _).alloc _
  have hBa : Blk W w.heap.size 41 #[.slice A0 ps.length n0, .bool s1, .slice A1 n1 c1, .bool s2, .slice A2 n2 c2] := by rw [hW]; exact ((Blk.newAt _ _ _ (by simp)).alloc _).alloc _
  have hBs : Blk W (w.heap.size + 1) 30 #[.slice A hs.length c] := by rw [hW]; exact (Blk.newAt _ _ _ (by simp)).alloc _
  have hBr : Blk W (w.heap.size + 1 + 1) 54 #[.bool false, .slice none 0 0, .bool false, .slice none 0 0, .slice none 0 0] := by rw [hW]; exact Blk.newAt _ _ _ (by simp)
  clear hW
  refine (HZ.out W).mono ?_
  rintro e w1 ⟨s5, A5, k5, c5, s6, A6, k6, c6, rfl, hq5, he1⟩
  go_upto_region 2 with fail
  obtain ⟨gT, hgT⟩ : ∃ gT : Nat, gT = w1.heap.size := ⟨_, rfl⟩
  have hl1 := (hBr.ext he1).lt
  rw [← hgT]
  obtain ⟨w2, hw2⟩ : ∃ w2 : World, w2 = w1.alloc (.cells #[.bool s5, .slice A5 k5 c5, .bool s6, .slice A6 k6 c6, .slice none 0 0] 54) := ⟨_, rfl⟩
  rw [← hw2]
  have hE2 : Ext W w2 := by rw [hw2]; exact he1.alloc _
  have hBT : Blk w2 gT 54 #[.bool s5, .slice A5 k5 c5, .bool s6, .slice A6 k6 c6, .slice none 0 0] := by rw [hw2, hgT]; exact Blk.newAt _ _ _ rfl
  have hq2 : IsRat w2 (.bool s5) (.slice A5 k5 c5) (.bool s6) (.slice A6 k6 c6) 0 := by rw [hw2]; exact ⟨hq5.1.alloc _, hq5.2.alloc _⟩
  rw [← hgT] at hl1
  clear hw2 hq5 hgT
  have hA2 := hBa.ext hE2
  have hS2 := hBs.ext hE2
  have hR2 := hBr.ext hE2
  have hEw2 : Ext w w2 := hE.trans hE2
  clear he1 hBa hBs hBr hE hE2
  go_wp2
  go_loopw [8] (fun i wr => ∃ (j : Nat) (x1 : Bool) (X1 : Option Addr) (y1 z1 : Nat) (x2 : Bool) (X2 : Option Addr) (y2 z2 : Nat) (M : Option Addr) (mn mc : Nat), i = .int .i64 (j : Int) ∧ j ≤ ps.length ∧ Hid (Blk wr gT 54 #[.bool x1, .slice X1 y1 z1, .bool x2, .slice X2 y2 z2, .slice M mn mc]) ∧
      Hid (IsRat wr (.bool x1) (.slice X1 y1 z1) (.bool x2) (.slice X2 y2 z2) (sumVal hs g (ps.take j))) ∧ Hid (OwnStrs (gT + 1) wr (.slice M mn mc) (sumMissR hs g (ps.take j))) ∧
      Hid (Blk wr w.heap.size 41 #[.slice A0 ps.length n0, .bool s1, .slice A1 n1 c1, .bool s2, .slice A2 n2 c2]) ∧ Hid (Blk wr (w.heap.size + 1) 30 #[.slice A hs.length c]) ∧
      Hid (Blk wr (w.heap.size + 1 + 1) 54 #[.bool false, .slice none 0 0, .bool false, .slice none 0 0, .slice none 0 0]) ∧ Ext w wr) (fun i _ => ps.length - (intOf i).toNat)
  case atStart =>
    exact ⟨0, s5, A5, k5, c5, s6, A6, k6, c6, _, _, _, rfl, Nat.zero_le _, hBT, hq2, World.ownsRow_nil _ _ _ _, hA2, hS2, hR2, hEw2⟩
  case round =>
    obtain ⟨j, x1, X1, y1, z1, x2, X2, y2, z2, M, mn, mc, rfl, hj, hT, hQ, hM, hBa, hBs, hBr, hEr⟩ := hrel
    obtain ⟨wo, rfl⟩ : ∃ wo : World, wo = wr := ⟨_, rfl⟩
    have hwa := hBa.out.cell 0
    have hwT := hT.out.five
    by_cases hjl : j < ps.length
    · have hjls : j < ls.length := by omega
      obtain ⟨b, o, rfl, hb, hrow⟩ := HR.out.row j hjls
      have hget := HA.out.get j _ _ (List.getElem?_eq_getElem hjls) (List.getElem?_eq_getElem hjl)
      have hSV := Lib.hid (sumVal_succ hs g ps j hjl)
      have hSM := Lib.hid (sumMissR_succ hs g ps j hjl)
      have hpj := HP.out _ (List.getElem_mem hjl)
      have hpt := Lib.hid (partVal_tw (g := g) HO.out hpj)
      have hst := Lib.hid (HS.out j hj)
      generalize ps[j] = p at *
      obtain ⟨t1, v1, t2, v2, t3, v3, hlk, hi1, hi2⟩ := hget
      obtain ⟨t1, T1, n1', c1', t2, T2, n2', c2', rfl, rfl, rfl, rfl⟩ := hi1.form
      obtain ⟨t3, T3, n3', c3', rfl, rfl, -, -, -⟩ := hi2.form
      have hcs : ∀ w', Ext wo w' → w'.cell? ⟨w.heap.size, 0, none⟩ = some (.slice (some ⟨b, o, none⟩) ps.length n0) ∧ w'.cell? ⟨w.heap.size + 1, 0, none⟩ = some (.slice A hs.length c) ∧ w'.cell? ⟨b, o + j * 9, none⟩ = some (.string ⟨p.name.toArray⟩) ∧ w'.cell? ⟨b, o + j * 9 + 1, none⟩ = some (.int .i64 p.at_) ∧ w'.cell? ⟨b, o + j * 9 + 2, none⟩ = some (.bool t1) ∧ w'.cell? ⟨b, o + j * 9 + 3, none⟩ = some (.slice T1 n1' c1') ∧ w'.cell? ⟨b, o + j * 9 + 4, none⟩ = some (.bool t2) ∧ w'.cell? ⟨b, o + j * 9 + 5, none⟩ = some (.slice T2 n2' c2') ∧ w'.cell? ⟨b, o + j * 9 + 6, none⟩ = some (.bool p.is) ∧ w'.cell? ⟨b, o + j * 9 + 7, none⟩ = some (.bool t3) ∧ w'.cell? ⟨b, o + j * 9 + 8, none⟩ = some (.slice T3 n3' c3') := by
        intro w' hw
        have hr := hrow w' (KeepT.ext (hEr.trans hw))
        rw [hlk] at hr
        exact ⟨(hBa.out.ext hw).cell 0, (hBs.out.ext hw).cell 0, hr 0 _ rfl, hr 1 _ rfl, hr 2 _ rfl, hr 3 _ rfl, hr 4 _ rfl, hr 5 _ rfl, hr 6 _ rfl, hr 7 _ rfl, hr 8 _ rfl⟩
      have HN := Lib.hid (show ∀ w', Ext w w' → w'.cell? ⟨b, o + j * 9, none⟩ = some (.string ⟨p.name.toArray⟩) from fun w' hw => by
        have hr := hrow w' (KeepT.ext hw)
        rw [hlk] at hr
        exact hr 0 _ rfl)
      have HK := Lib.hid hcs
      have HI1 := Lib.hid hi1
      have HI2 := Lib.hid hi2
      have hjn : j < ps.length := hjl
      clear hcs hrow hlk hi1 hi2
      have q1 := HK.out wo (Ext.refl _)
      go_upto_region 5 with fail
      clear q1
      go_cut [9, 10] (fun p9 q9 wx => ∃ (gr : Nat) (s7 : Bool) (A7 : Option Addr) (k7 c7 : Nat) (s8 : Bool) (A8 : Option Addr) (k8 c8 : Nat), p9 = .pointer (some ⟨gr, 0, none⟩) ∧ q9 = .bool (partVal (best hs p.name g) p).isSome ∧ Blk wx gr 39 #[.bool s7, .slice A7 k7 c7, .bool s8, .slice A8 k8 c8] ∧
        IsRat wx (.bool s7) (.slice A7 k7 c7) (.bool s8) (.slice A8 k8 c8) ((partVal (best hs p.name g) p).getD 0) ∧ Ext wo wx)
      case first =>
        go_region_held3 (fun w' => w'.cell? ⟨w.heap.size, 0, none⟩ = some (.slice (some ⟨b, o, none⟩) ps.length n0) ∧ w'.cell? ⟨w.heap.size + 1, 0, none⟩ = some (.slice A hs.length c) ∧ w'.cell? ⟨b, o + j * 9, none⟩ = some (.string ⟨p.name.toArray⟩) ∧ w'.cell? ⟨b, o + j * 9 + 1, none⟩ = some (.int .i64 p.at_) ∧ w'.cell? ⟨b, o + j * 9 + 2, none⟩ = some (.bool t1) ∧ w'.cell? ⟨b, o + j * 9 + 3, none⟩ = some (.slice T1 n1' c1') ∧ w'.cell? ⟨b, o + j * 9 + 4, none⟩ = some (.bool t2) ∧ w'.cell? ⟨b, o + j * 9 + 5, none⟩ = some (.slice T2 n2' c2') ∧ w'.cell? ⟨b, o + j * 9 + 6, none⟩ = some (.bool p.is) ∧ w'.cell? ⟨b, o + j * 9 + 7, none⟩ = some (.bool t3) ∧ w'.cell? ⟨b, o + j * 9 + 8, none⟩ = some (.slice T3 n3' c3'))
          (first | (refine HK.out _ ?_; (repeat (first | with_reducible assumption | with_reducible exact Ext.refl _ | with_reducible refine Ext.drew ?_ | with_reducible refine Ext.drewN ?_ _ | with_reducible refine Ext.alloc ?_ _ | with_reducible refine Ext.set2 ?_ (by omega) _ _ | with_reducible refine Ext.setCell ?_ (by first | omega | (simp; done) | (simp; omega)) _ | with_reducible refine Ext.trans ?_ (by with_reducible assumption))); done))
          (first | (go_at_call 49; (with_reducible refine (Known38_any _ _ _ _ _ _ _ _ p hs g _ hlen hgl HO.out hpj.ok (HI1.out.ext ?q1) (HI2.out.ext ?q2) (H3.out.ext ?q3) (H4.out.ext ?q4)).mono ?_); (case q1 => (refine hEr.trans ?_; (repeat (first | with_reducible assumption | with_reducible exact Ext.refl _ | with_reducible refine Ext.drew ?_ | with_reducible refine Ext.drewN ?_ _ | with_reducible refine Ext.alloc ?_ _ | with_reducible refine Ext.set2 ?_ (by omega) _ _ | with_reducible refine Ext.setCell ?_ (by first | omega | (simp; done) | (simp; omega)) _ | with_reducible refine Ext.trans ?_ (by with_reducible assumption))))); (case q2 => (refine hEr.trans ?_; (repeat (first | with_reducible assumption | with_reducible exact Ext.refl _ | with_reducible refine Ext.drew ?_ | with_reducible refine Ext.drewN ?_ _ | with_reducible refine Ext.alloc ?_ _ | with_reducible refine Ext.set2 ?_ (by omega) _ _ | with_reducible refine Ext.setCell ?_ (by first | omega | (simp; done) | (simp; omega)) _ | with_reducible refine Ext.trans ?_ (by with_reducible assumption))))); (case q3 => (refine hEr.trans ?_; (repeat (first | with_reducible assumption | with_reducible exact Ext.refl _ | with_reducible refine Ext.drew ?_ | with_reducible refine Ext.drewN ?_ _ | with_reducible refine Ext.alloc ?_ _ | with_reducible refine Ext.set2 ?_ (by omega) _ _ | with_reducible refine Ext.setCell ?_ (by first | omega | (simp; done) | (simp; omega)) _ | with_reducible refine Ext.trans ?_ (by with_reducible assumption))))); (case q4 => (refine hEr.trans ?_; (repeat (first | with_reducible assumption | with_reducible exact Ext.refl _ | with_reducible refine Ext.drew ?_ | with_reducible refine Ext.drewN ?_ _ | with_reducible refine Ext.alloc ?_ _ | with_reducible refine Ext.set2 ?_ (by omega) _ _ | with_reducible refine Ext.setCell ?_ (by first | omega | (simp; done) | (simp; omega)) _ | with_reducible refine Ext.trans ?_ (by with_reducible assumption))))); rintro e w3 ⟨s7, A7, k7, c7, s8, A8, k8, c8, rfl, hq7, he7⟩; (try ((refine mp_of (p := Blk w3 wo.heap.size 39 #[.bool false, .slice none 0 0, .bool false, .slice none 0 0]) ?_ ?_); (focus (refine Blk.ext ?_ he7; (repeat (first | with_reducible assumption | with_reducible exact Blk.newAt _ _ _ (by first | rfl | (simp; done) | (simp; omega)) | with_reducible refine Blk.alloc ?_ _ | with_reducible refine Blk.set2 (x := .bool false) (y := .slice none 0 0) ?_ _ _ | with_reducible refine Blk.far2 ?_ (by omega) _ _ | with_reducible refine Blk.drew ?_ | with_reducible refine Blk.ext ?_ (by with_reducible assumption))); done)); intro hb9; have y9 := hb9.four))))
        all_goals
          go_wp2_with fail
          go_meet
          first
            | exact ⟨_, s7, A7, k7, c7, s8, A8, k8, c8, rfl, rfl, by (repeat (first | with_reducible assumption | with_reducible exact Blk.newAt _ _ _ (by first | rfl | (simp; done) | (simp; omega)) | with_reducible refine Blk.alloc ?_ _ | with_reducible refine Blk.set2 (x := .bool false) (y := .slice none 0 0) ?_ _ _ | with_reducible refine Blk.far2 ?_ (by omega) _ _ | with_reducible refine Blk.drew ?_ | with_reducible refine Blk.ext ?_ (by with_reducible assumption))), ⟨hq7.1.alloc _, hq7.2.alloc _⟩, by (repeat (first | with_reducible assumption | with_reducible exact Ext.refl _ | with_reducible refine Ext.drew ?_ | with_reducible refine Ext.drewN ?_ _ | with_reducible refine Ext.alloc ?_ _ | with_reducible refine Ext.set2 ?_ (by omega) _ _ | with_reducible refine Ext.setCell ?_ (by first | omega | (simp; done) | (simp; omega)) _ | with_reducible refine Ext.trans ?_ (by with_reducible assumption)))⟩
            | exact ⟨_, s7, A7, k7, c7, s8, A8, k8, c8, rfl, rfl, (((hb9.set_ 0 (.bool s7)).set_ 1 (.slice A7 k7 c7)).set_ 2 (.bool s8)).set_ 3 (.slice A8 k8 c8), ⟨hq7.1.set4 hb9.type (by decide) _ _ _ _, hq7.2.set4 hb9.type (by decide) _ _ _ _⟩, Ext.set4 (by (repeat (first | with_reducible assumption | with_reducible exact Ext.refl _ | with_reducible refine Ext.drew ?_ | with_reducible refine Ext.drewN ?_ _ | with_reducible refine Ext.alloc ?_ _ | with_reducible refine Ext.set2 ?_ (by omega) _ _ | with_reducible refine Ext.setCell ?_ (by first | omega | (simp; done) | (simp; omega)) _ | with_reducible refine Ext.trans ?_ (by with_reducible assumption)))) (Nat.le_refl _) _ _ _ _⟩
      case rest =>
        obtain ⟨gr, s7, A7, k7, c7, s8, A8, k8, c8, rfl, rfl, hBg, hqg, hEg⟩ := hcut
        have hTc := hT.out.ext hEg
        have f1 := hTc.five
        have f2 := hBg.four
        have hd1 := hst.out.den
        have hd2 := hpt.out.den
        have hn1 := hst.out.num
        have hn2 := hpt.out.num
        obtain ⟨S, hS⟩ : ∃ S : Rat, S = sumVal hs g (ps.take j) := ⟨_, rfl⟩
        obtain ⟨V, hV⟩ : ∃ V : Rat, V = (partVal (best hs p.name g) p).getD 0 := ⟨_, rfl⟩
        rw [← hS] at hd1 hn1
        rw [← hV] at hd2 hn2 hqg
        have hQc := hQ.out.ext hEg
        rw [← hS] at hQc
        have hj12 : j * 1000000000000 ≤ 5000000000000000 := by omega
        have hmm : S.den * V.den ≤ 12 * 12 := Nat.mul_le_mul hd1 hd2
        have hnn : (S.num * V.den + V.num * S.den).natAbs ≤ 18446744073709551615 := by
          have a1 : (S.num * V.den).natAbs ≤ 5000000000000000 * 12 := by rw [Int.natAbs_mul, Int.natAbs_natCast]; exact Nat.mul_le_mul (by omega) hd2
          have a2 : (V.num * S.den).natAbs ≤ 1000000000000 * 12 := by rw [Int.natAbs_mul, Int.natAbs_natCast]; exact Nat.mul_le_mul hn2 hd1
          omega
        go_wp2_with fail
        refine (radd1_any _ _ _ _ _ _ _ _ S V wc (by omega) (by omega) (by omega) hnn hQc hqg).mono ?_
        rintro e w5 ⟨s9, A9, k9, c9, s0, A0', k0, c0', rfl, hq9, he9⟩
        have hT5 := hTc.ext he9
        have f5 := hT5.five
        go_upto_region 7 with fail
        obtain ⟨w6, hw6⟩ : ∃ w6 : World, w6 = (((w5.setCell ⟨gT, 0, none⟩ (.bool s9)).setCell ⟨gT, 1, none⟩ (.slice A9 k9 c9)).setCell ⟨gT, 2, none⟩ (.bool s0)).setCell ⟨gT, 3, none⟩ (.slice A0' k0 c0') := ⟨_, rfl⟩
        rw [← hw6]
        have hT6 : Blk w6 gT 54 #[.bool s9, .slice A9 k9 c9, .bool s0, .slice A0' k0 c0', .slice M mn mc] := by rw [hw6]; exact (((hT5.set_ 0 (.bool s9)).set_ 1 (.slice A9 k9 c9)).set_ 2 (.bool s0)).set_ 3 (.slice A0' k0 c0')
        have hq6 : IsRat w6 (.bool s9) (.slice A9 k9 c9) (.bool s0) (.slice A0' k0 c0') (S + V) := by rw [hw6]; exact ⟨hq9.1.set4 hT5.type (by decide) _ _ _ _, hq9.2.set4 hT5.type (by decide) _ _ _ _⟩
        have hEo5 : Ext wo w5 := hEg.trans he9
        have hM5 := own_ext hM.out hEo5
        have hgm : ∀ g0, (Value.slice M mn mc).ownBlock = some g0 → g0 ≠ gT := fun g0 hg0 => by have := own_block hM.out g0 hg0; omega
        have hM6 : OwnStrs (gT + 1) w6 (.slice M mn mc) (sumMissR hs g (ps.take j)) := by
          rw [hw6]
          exact own_far (p := ⟨gT, 3, none⟩) (own_far (p := ⟨gT, 2, none⟩) (own_far (p := ⟨gT, 1, none⟩) (own_far (p := ⟨gT, 0, none⟩) hM5 hgm _) hgm _) hgm _) hgm _
        have far4 : ∀ {k0 : Nat} {t : TypeId} {cs : Array Value}, k0 ≠ gT → Blk w5 k0 t cs → Blk w6 k0 t cs := by
          intro k0 t cs hne hb
          rw [hw6]
          exact (((hb.far (p := ⟨gT, 0, none⟩) hne _).far (p := ⟨gT, 1, none⟩) hne _).far (p := ⟨gT, 2, none⟩) hne _).far (p := ⟨gT, 3, none⟩) hne _
        have hA6 := far4 (by omega) (hBa.out.ext hEo5)
        have hB6 := far4 (by omega) (hBs.out.ext hEo5)
        have hR6 := far4 (by omega) (hBr.out.ext hEo5)
        have hE6 : Ext w w6 := by rw [hw6]; exact (hEr.trans hEo5).set4 (by omega) _ _ _ _
        clear hw6 far4 hM5 hq9 hTc f1 f2 f5 hT5 hEo5 hQc hqg hgm hnn hmm hd1 hd2 hn1 hn2 hwa hwT hT hQ hM hBa hBs hBr hBg
        have HA6 := Lib.hid hA6
        have HB6 := Lib.hid hB6
        have HR6 := Lib.hid hR6
        have HM6 := Lib.hid hM6
        have HT6 := Lib.hid hT6
        have HQ6 := Lib.hid hq6
        have hSV2 : S + V = sumVal hs g (ps.take (j + 1)) := by rw [hSV.out, hS, hV]
        have HSV2 := Lib.hid hSV2
        clear hA6 hB6 hR6 hM6 hT6 hq6 hSV2
        by_cases hk : (partVal (best hs p.name g) p).isSome = true
        · have hsm := Lib.hid (show sumMissR hs g (ps.take (j + 1)) = sumMissR hs g (ps.take j) by rw [hSM.out, if_pos hk])
          go_wp2
          exact ⟨⟨j + 1, s9, A9, k9, c9, s0, A0', k0, c0', M, mn, mc, by go_num, by omega, HT6.out, by rw [← HSV2.out]; exact HQ6.out, by rw [hsm.out]; exact HM6.out, HA6.out, HB6.out, HR6.out, hE6⟩, by (simp [intOf] <;> omega)⟩
        · have hk2 : (partVal (best hs p.name g) p).isSome = false := by simpa using hk
          have hsm := Lib.hid (show sumMissR hs g (ps.take (j + 1)) = sortedOf (sumMissR hs g (ps.take j) ++ [p.name]) by rw [hSM.out, if_neg hk])
          have hml := sumMissR_len hs g (ps.take j)
          rw [List.length_take] at hml
          have hml2 : (cellsS (sumMissR hs g (ps.take j))).length ≤ 5000 := by simp [cellsS]; omega
          have hob := own_block HM6.out
          have HOB := Lib.hid hob
          have g1 := HN.out w6 hE6
          have g2 := HA6.out.cell 0
          have g3 := HT6.out.cell 4
          have g4 := HT6.out.lt
          generalize hgm : sumMissR hs g (ps.take j) = ms at *
          clear hob
          go_upto_region 8 with fail
          go_region_law (first | (go_simp; go_at_call 50; (with_reducible refine (Sorted38_own _ (ms ++ [p.name]) _ (by simp; simp [cellsS] at hml2; omega) hs7).mono ?_); rintro e w8 ⟨v8, rfl, ho8, he8⟩; have hT8 := Blk.ext hT7 he8; have z8 := hT8.five; obtain ⟨B8, d8, rfl⟩ := ho8.strs.shape; (try go_wp2_with fail)) | ((with_reducible refine step_at 47 ?_); go_must ((refine step_append_rows rfl (.tmp 39) (.tmp 46) _ rfl (gT + 1) 9 1 16 Tryz.underlying50 string_info (by decide) (.slice M mn mc) (cellsS ms).length (cellsS ms).flatten rfl (own_ext HM6.out ?q1) _ [[.string ⟨p.name.toArray⟩]] rfl (RowsOf.one_new _ _ _ rfl (by simp [Value.oneCell']) rfl) ?q4 ?q5 ?q6 ?_; (case q1 => (repeat (first | with_reducible assumption | with_reducible exact Ext.refl _ | with_reducible refine Ext.drew ?_ | with_reducible refine Ext.drewN ?_ _ | with_reducible refine Ext.alloc ?_ _ | with_reducible refine Ext.set2 ?_ (by omega) _ _ | with_reducible refine Ext.setCell ?_ (by first | omega | (simp; done) | (simp; omega)) _ | with_reducible refine Ext.trans ?_ (by with_reducible assumption)))); (case q4 => (simp; unfold maxLen; omega)); (case q5 => (simp; omega)); (case q6 => (simp; omega)); intro v7 w7 hown7 hgr7; have hs7 : IsStrs w7 v7 (ms ++ [p.name]) := OwnStrs.strs (base := gT + 1) (strs_snoc hown7); have hE7 : Ext w w7 := Ext.grown (by (repeat (first | with_reducible assumption | with_reducible exact Ext.refl _ | with_reducible refine Ext.drew ?_ | with_reducible refine Ext.drewN ?_ _ | with_reducible refine Ext.alloc ?_ _ | with_reducible refine Ext.set2 ?_ (by omega) _ _ | with_reducible refine Ext.setCell ?_ (by first | omega | (simp; done) | (simp; omega)) _ | with_reducible refine Ext.trans ?_ (by with_reducible assumption)))) hgr7 (fun k hk => by have := HOB.out k hk; omega); have hT7 := Blk.grown (Blk.ext HT6.out (by (repeat (first | with_reducible assumption | with_reducible exact Ext.refl _ | with_reducible refine Ext.drew ?_ | with_reducible refine Ext.drewN ?_ _ | with_reducible refine Ext.alloc ?_ _ | with_reducible refine Ext.set2 ?_ (by omega) _ _ | with_reducible refine Ext.setCell ?_ (by first | omega | (simp; done) | (simp; omega)) _ | with_reducible refine Ext.trans ?_ (by with_reducible assumption))))) hgr7 (fun h => by have := HOB.out _ h.symm; omega); have hA7 := Blk.grown (Blk.ext HA6.out (by (repeat (first | with_reducible assumption | with_reducible exact Ext.refl _ | with_reducible refine Ext.drew ?_ | with_reducible refine Ext.drewN ?_ _ | with_reducible refine Ext.alloc ?_ _ | with_reducible refine Ext.set2 ?_ (by omega) _ _ | with_reducible refine Ext.setCell ?_ (by first | omega | (simp; done) | (simp; omega)) _ | with_reducible refine Ext.trans ?_ (by with_reducible assumption))))) hgr7 (fun h => by have := HOB.out _ h.symm; omega); have hB7 := Blk.grown (Blk.ext HB6.out (by (repeat (first | with_reducible assumption | with_reducible exact Ext.refl _ | with_reducible refine Ext.drew ?_ | with_reducible refine Ext.drewN ?_ _ | with_reducible refine Ext.alloc ?_ _ | with_reducible refine Ext.set2 ?_ (by omega) _ _ | with_reducible refine Ext.setCell ?_ (by first | omega | (simp; done) | (simp; omega)) _ | with_reducible refine Ext.trans ?_ (by with_reducible assumption))))) hgr7 (fun h => by have := HOB.out _ h.symm; omega); have hR7 := Blk.grown (Blk.ext HR6.out (by (repeat (first | with_reducible assumption | with_reducible exact Ext.refl _ | with_reducible refine Ext.drew ?_ | with_reducible refine Ext.drewN ?_ _ | with_reducible refine Ext.alloc ?_ _ | with_reducible refine Ext.set2 ?_ (by omega) _ _ | with_reducible refine Ext.setCell ?_ (by first | omega | (simp; done) | (simp; omega)) _ | with_reducible refine Ext.trans ?_ (by with_reducible assumption))))) hgr7 (fun h => by have := HOB.out _ h.symm; omega); have hq7 : IsRat w7 (.bool s9) (.slice A9 k9 c9) (.bool s0) (.slice A0' k0 c0') (S + V) := (by refine IsRat.keep HQ6.out (KeepT.trans (KeepT.ext ?_) (own_keep (own_ext HM6.out ?_) hgr7 (by decide))) <;> (repeat (first | with_reducible assumption | with_reducible exact Ext.refl _ | with_reducible refine Ext.drew ?_ | with_reducible refine Ext.drewN ?_ _ | with_reducible refine Ext.alloc ?_ _ | with_reducible refine Ext.set2 ?_ (by omega) _ _ | with_reducible refine Ext.setCell ?_ (by first | omega | (simp; done) | (simp; omega)) _ | with_reducible refine Ext.trans ?_ (by with_reducible assumption)))); obtain ⟨B7, d7, hv7⟩ := hs7.shape; have hv8 : v7 = .slice B7 (ms.length + 1) d7 := (by rw [hv7]; simp); clear hv7; subst hv8))))
          all_goals
            have hb8 := own_block ho8
            have h78 := hT7.lt
            have hE8 : Ext w w8 := hE7.trans he8
            have hrg : w.heap.size + 1 + 1 < gT := hl1
            have hne : ∀ g0, (Value.slice B8 (sortedOf (ms ++ [p.name])).length d8).ownBlock = some g0 → g0 ≠ gT := fun g0 hg0 => by have := hb8 g0 hg0; omega
            obtain ⟨u8, hu8⟩ : ∃ u : Value, u = .slice B8 (sortedOf (ms ++ [p.name])).length d8 := ⟨_, rfl⟩
            have HO9 := Lib.hid (show OwnStrs (gT + 1) (w8.setCell ⟨gT, 4, none⟩ u8) (.slice B8 (sortedOf (ms ++ [p.name])).length d8) (sumMissR hs g (ps.take (j + 1))) by rw [hsm.out]; exact own_base (own_far (p := ⟨gT, 4, none⟩) ho8 hne _) (by omega))
            have HT9 := Lib.hid (show Blk (w8.setCell ⟨gT, 4, none⟩ u8) gT 54 #[.bool s9, .slice A9 k9 c9, .bool s0, .slice A0' k0 c0', u8] from hT8.set_ 4 u8)
            have HQ9 := Lib.hid (show IsRat (w8.setCell ⟨gT, 4, none⟩ u8) (.bool s9) (.slice A9 k9 c9) (.bool s0) (.slice A0' k0 c0') (sumVal hs g (ps.take (j + 1))) by rw [← HSV2.out]; exact (hq7.ext he8).setCell (p := ⟨gT, 4, none⟩) hT8.type (by decide) _)
            have HA9 := Lib.hid ((hA7.ext he8).far (p := ⟨gT, 4, none⟩) (by show w.heap.size ≠ gT; omega) u8)
            have HB9 := Lib.hid ((hB7.ext he8).far (p := ⟨gT, 4, none⟩) (by show w.heap.size + 1 ≠ gT; omega) u8)
            have HR9 := Lib.hid ((hR7.ext he8).far (p := ⟨gT, 4, none⟩) (by show w.heap.size + 1 + 1 ≠ gT; omega) u8)
            have hE9 := hE8.setCell (p := ⟨gT, 4, none⟩) (by show w.heap.size ≤ gT; omega) u8
            rw [hu8] at HO9 HT9 HQ9 HA9 HB9 HR9 hE9
            clear ho8 hb8 hne hown7 hgr7 hs7 hT7 hA7 hB7 hR7 hq7 hT8 z8 hu8 g1 g2 g3 hml hml2
            go_wp2
            exact ⟨⟨j + 1, s9, A9, k9, c9, s0, A0', k0, c0', B8, _, d8, by go_num, by omega, HT9.out, HQ9.out, HO9.out, HA9.out, HB9.out, HR9.out, hE9⟩, by (simp [intOf] <;> omega)⟩
    · obtain rfl : j = ps.length := by omega
      have q0 := hT.out.five
      have q2 := hBr.out.five
      rw [List.take_length] at hQ hM
      go_wp2
      refine bodyPost_ret (v := .agg #[.bool x1, .slice X1 y1 z1, .bool x2, .slice X2 y2 z2, .slice M mn mc]) (by simp [results, Tryz.results17, go_sem, q2]) rfl ?_
      have hK := (KeepT.refl [9, 136] wo).set5 hBr.out.type (by decide) (.bool x1) (.slice X1 y1 z1) (.bool x2) (.slice X2 y2 z2) (.slice M mn mc)
      exact ⟨.bool x1, .slice X1 y1 z1, .bool x2, .slice X2 y2 z2, .slice M mn mc, rfl, hQ.out.keep (hK.mono (by decide)), hM.out.strs.keep hK (by decide), hEr.set5 (by omega) _ _ _ _ _⟩

end Go.Proofs.YtddgjlfniabehaaGreatDoor
