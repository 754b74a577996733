/-
  R38.Made.
-/
import Derived.Test.YtddgjlfniabehaaGreatDoorJ23
import Derived.IntWalk
set_option linter.unusedVariables false
set_option linter.unusedSimpArgs false

/- R38.Made. -/
namespace Go.Proofs.YtddgjlfniabehaaGreatDoor
open Go.RowKit
attribute [local go_sem ↓] Go.wp_at_zero Go.wp_at_succ
attribute [local go_sem ↓] sub_str

theorem nums_shape {w : World} {v : Value} {bs : List Int} (h : IsNums w v bs) : ∃ A c, v = .slice A bs.length c := by
  obtain ⟨A, c, e⟩ := RowsOf.shape h
  exact ⟨A, c, by rw [e, List.length_map]⟩

set_option maxRecDepth 100000 in
set_option maxHeartbeats 8000000 in
theorem Made38_any (n : Int) (ov bv yv : Value) (os bs ys : List Int) (w : World) (h1 : 0 ≤ n) (h2 : n ≤ 255) (hlo : os.length ≤ 1100000) (hlb : bs.length ≤ 1100000) (hly : ys.length ≤ 1100000)
    (ho : ∀ b ∈ os, 0 ≤ b ∧ b ≤ 255) (hb : ∀ b ∈ bs, -128 ≤ b ∧ b ≤ 127) (hy : ∀ b ∈ ys, 0 ≤ b ∧ b ≤ 255) (ko : ArgInts .u8 w ov os) (kb : ArgInts .i8 w bv bs) (ky : ArgInts .u8 w yv ys) :
    Calls Tryz.prog 9 #[.agg #[.int .u8 n, ov, bv, yv]] w fun e w' => ∃ (v : Value) (hs : List HeldD), e = .returned (.agg #[v]) ∧ (∀ h ∈ hs, HeldOk h ∧ h.vals.length = 1) ∧ hs.length ≤ 241 ∧ IsShelf w' v hs ∧ Ext w w' := by
  obtain ⟨Ao, co, rfl⟩ := ko.shape
  obtain ⟨Ab, cb, rfl⟩ := kb.shape
  obtain ⟨Ay, cy, rfl⟩ := ky.shape
  obtain ⟨k, hk, hk1, hk2⟩ : ∃ k : Nat, 1 + n % 60 = (k : Int) ∧ 1 ≤ k ∧ k ≤ 60 := ⟨(1 + n % 60).toNat, by omega, by omega, by omega⟩
  have HNUM := Lib.hid (fun (w' : World) => (show Calls Tryz.prog 13 #[.agg #[.int .u8 n, .slice Ao os.length co, .slice Ab bs.length cb, .slice Ay ys.length cy]] w' fun e w'' => e = .returned (.int .i64 (k : Int)) ∧ Ext w' w'' by rw [← hk]; exact Number38_any n _ _ _ _ _ _ _ _ _ w' h1 h2))
  have HAUD := Lib.hid (fun w' => Audit38_pos k w' hk1 (by omega))
  have hl1 : (partsR k (4 * k + 1)).length ≤ 241 := by have := partsR_len k (4 * k + 1); omega
  have HPM := Lib.hid (fun (p : PartD) (hp : p ∈ partsR k (4 * k + 1)) => parts_mem hp)
  have HPN := Lib.hid (parts_names k (4 * k + 1))
  have KO := Lib.hid ko
  have KB := Lib.hid kb
  have KY := Lib.hid ky
  have HO := Lib.hid ho
  have HB := Lib.hid hb
  have HY := Lib.hid hy
  clear ko kb ky ho hb hy hk
  generalize partsR k (4 * k + 1) = ps at *
  go_enter Tryz.func9, Tryz.ntmps9
  go_upto_region 2 with fail
  obtain ⟨W, hW⟩ : ∃ W : World, W = ((w.alloc (.cells #[.int .u8 n, .slice Ao os.length co, .slice Ab bs.length cb, .slice Ay ys.length cy] 25)).alloc (.cells #[.slice none 0 0] 30)).alloc (.cells #[.slice none 0 0] 30) := ⟨_, rfl⟩
  rw [← hW]
  have hE : Ext w W := by rw [hW]; exact (((Ext.refl w).alloc _).alloc _).alloc _
  have hBx : Blk W w.heap.size 25 #[.int .u8 n, .slice Ao os.length co, .slice Ab bs.length cb, .slice Ay ys.length cy] := by rw [hW]; exact ((Blk.newAt _ _ _ (by simp)).alloc _).alloc _
  have hBr : Blk W (w.heap.size + 1) 30 #[.slice none 0 0] := by rw [hW]; exact (Blk.newAt _ _ _ (by simp)).alloc _
  have hBs : Blk W (w.heap.size + 1 + 1) 30 #[.slice none 0 0] := by rw [hW]; exact Blk.newAt _ _ _ (by simp)
  have x4 := hBx.four
  clear hW
  go_wp2_with fail
  refine (HNUM.out W).mono ?_
  rintro e w0 ⟨rfl, hE0⟩
  clear x4
  go_wp2_with fail
  refine (HAUD.out w0).mono ?_
  rintro e w1 ⟨av, a, b, c, d, rfl, hP, hQ, hE1⟩
  obtain ⟨A0, n0, rfl⟩ := hP.shape
  obtain ⟨s1, A1, n1, c1, s2, A2, n2, c2, rfl, rfl, rfl, rfl⟩ := hQ.form
  go_upto_region 3 with fail
  obtain ⟨w2, hw2⟩ : ∃ w2 : World, w2 = w1.alloc (.cells #[.slice A0 ps.length n0, .bool s1, .slice A1 n1 c1, .bool s2, .slice A2 n2 c2] 41) := ⟨_, rfl⟩
  rw [← hw2]
  have hE2 : Ext W w2 := by rw [hw2]; exact (hE0.trans hE1).alloc _
  have hE12 : Ext w1 w2 := by rw [hw2]; exact (Ext.refl _).alloc _
  have hBa : Blk w2 w1.heap.size 41 #[.slice A0 ps.length n0, .bool s1, .slice A1 n1 c1, .bool s2, .slice A2 n2 c2] := by rw [hw2]; exact Blk.newAt _ _ _ rfl
  have hgs : w.heap.size + 1 + 1 < w1.heap.size := Nat.lt_of_lt_of_le hBs.lt (hE0.trans hE1).size'
  have HBA := Lib.hid hBa
  have HBX := Lib.hid (hBx.ext hE2)
  have HBR := Lib.hid (hBr.ext hE2)
  have HBS := Lib.hid (hBs.ext hE2)
  have hEw := hE.trans hE2
  obtain ⟨ls, hR, hA⟩ := hP.ext hE12
  have hlp := hA.length
  have HR := Lib.hid hR
  have HA := Lib.hid hA
  clear hw2 hBa hBx hBr hBs hE0 hE1 hE12 hE2 hE hP hQ hR hA HAUD HNUM
  generalize w1.heap.size = ga at *
  have hS2 : IsShelf w2 (.slice none 0 0) [] := ⟨[], RowsOf.nil _ _ _, trivial⟩
  have HS2 := Lib.hid hS2
  clear hS2
  go_wp2_with fail
  go_loopw [6] (fun t wr => ∃ (i : Nat) (v : Value) (hs : List HeldD), t = .int .i64 (i : Int) ∧ i ≤ ps.length ∧ hs.length ≤ i ∧ Hid (∀ h ∈ hs, HeldOk h ∧ h.vals.length = 1) ∧ Hid (∀ h ∈ hs, ∃ q ∈ ps.take i, h.name = q.name) ∧ Hid (IsShelf wr v hs) ∧ Hid (Blk wr (w.heap.size + 1 + 1) 30 #[v]) ∧ Hid (Blk wr ga 41 #[.slice A0 ps.length n0, .bool s1, .slice A1 n1 c1, .bool s2, .slice A2 n2 c2]) ∧ Hid (Blk wr (w.heap.size + 1) 30 #[.slice none 0 0]) ∧ Hid (Blk wr w.heap.size 25 #[.int .u8 n, .slice Ao os.length co, .slice Ab bs.length cb, .slice Ay ys.length cy]) ∧ Hid (KeepT [62] w2 wr) ∧ Ext w wr) (fun t _ => ps.length - (intOf t).toNat)
  case atStart => exact ⟨0, _, [], rfl, Nat.zero_le _, Nat.le_refl _, (show Hid _ from Lib.hid (fun h hh => by cases hh)), (show Hid _ from Lib.hid (fun h hh => by cases hh)), HS2, HBS, HBA, HBR, HBX, (show Hid _ from Lib.hid (KeepT.refl _ _)), hEw⟩
  case round =>
    obtain ⟨i, v, hs, rfl, hi, hhl, hok, hnm, hS, hBs, hBa, hBr, hBx, hK, hEr⟩ := hrel
    obtain ⟨wo, rfl⟩ : ∃ wo : World, wo = wr := ⟨_, rfl⟩
    have z4 := hBa.out.five
    by_cases hlt : i < ps.length
    · have hil : i < ls.length := by omega
      obtain ⟨b, o, rfl, hb, hrow⟩ := HR.out.row i hil
      have hget := HA.out.get i _ _ (List.getElem?_eq_getElem hil) (List.getElem?_eq_getElem hlt)
      obtain ⟨m, hm, hpm⟩ := HPM.out _ (List.getElem_mem hlt)
      have hne : ∀ h ∈ hs, h.name ≠ nameOf m := by
        intro h hh e
        obtain ⟨q, hq, hqe⟩ := hnm.out h hh
        have h3 := HPN.out
        rw [← List.take_append_drop (i + 1) ps, List.take_succ_eq_append_getElem hlt, List.map_append, List.map_append, List.pairwise_append, List.pairwise_append] at h3
        refine h3.1.2.2 q.name (List.mem_map_of_mem hq) (ps[i]).name (by simp) ?_
        rw [hpm, ← hqe]
        exact e
      have htk : ∀ h ∈ hs, ∃ q ∈ ps.take (i + 1), h.name = q.name := fun h hh => by
        obtain ⟨q, hq, hqe⟩ := hnm.out h hh
        exact ⟨q, by rw [List.take_succ_eq_append_getElem hlt]; exact List.mem_append_left _ hq, hqe⟩
      have htn : ∃ q ∈ ps.take (i + 1), nameOf m = q.name := ⟨ps[i], by rw [List.take_succ_eq_append_getElem hlt]; exact List.mem_append_right _ (List.mem_singleton.2 rfl), by rw [hpm]⟩
      generalize ps[i] = p at *
      obtain ⟨t1, v1, t2, v2, t3, v3, hlk, -, -⟩ := hget
      have hnmc : ∀ w', KeepT [62] w2 w' → w'.cell? ⟨b, o + i * 9, none⟩ = some (.string ⟨(nameOf m).toArray⟩) := by
        intro w' hw
        have hr := hrow w' hw
        rw [hlk] at hr
        have := hr 0 _ rfl
        rw [hpm] at this
        exact this
      have HNM := Lib.hid hnmc
      have HNE := Lib.hid hne
      have HTK := Lib.hid htk
      have HTN := Lib.hid htn
      have hK1 : KeepT [62] w2 wo := hK.out.mono (by simp)
      have c0 := hnmc wo hK1
      have hsl := fun w' => run_tail_name m w' (by omega)
      clear hnmc hrow hlk hne hpm hb htk htn
      go_wp2_with fail
      refine (Parse1_any m wo (by omega)).mono ?_
      rintro e w3 ⟨s4, A4, n4, c4, rfl, hm4, hE3⟩
      go_upto_region 7 with fail
      obtain ⟨w4, hw4⟩ : ∃ w4 : World, w4 = w3.alloc (.cells #[.bool s4, .slice A4 n4 c4] 37) := ⟨_, rfl⟩
      rw [← hw4]
      have hE4 : Ext wo w4 := by rw [hw4]; exact hE3.alloc _
      have hB6 : Blk w4 w3.heap.size 37 #[.bool s4, .slice A4 n4 c4] := by rw [hw4]; exact Blk.newAt _ _ _ rfl
      have hm5 : IsInt w4 (.bool s4) (.slice A4 n4 c4) (m : Int) := by rw [hw4]; exact hm4.alloc _
      have z6 := hB6.two
      clear hw4 c0 z4 hsl hm4
      go_wp2_with fail
      refine (Low1_any _ _ (m : Int) w4 (by omega) hm5).mono ?_
      rintro e w5 ⟨rfl, hE5⟩
      clear z6 hB6
      go_upto_region 8 with fail
      have hE05 : Ext wo w5 := hE4.trans hE5
      have HT := Lib.hid (fun w' => Twelve_any (m : Int) w' (by omega) (by omega))
      have htw := twelve_bd (n := (m : Int)) (by omega) (by omega)
      obtain ⟨tz, htz⟩ : ∃ tz : Int, twelve (m : Int) = tz := ⟨_, rfl⟩
      rw [htz] at HT htw
      clear htz hm5 hE3 hE4 hE5
      go_wp2_with fail
      refine (HT.out w5).mono ?_
      rintro e w6 ⟨rfl, hE6⟩
      have hE06 := hE05.trans hE6
      have HBX6 := Lib.hid (hBx.out.ext hE06)
      have HBA6 := Lib.hid (hBa.out.ext hE06)
      have HK6 := Lib.hid (hK.out.trans (KeepT.ext hE06))
      have HEw6 := Lib.hid (hEr.trans hE06)
      have HE06 := Lib.hid hE06
      clear hE05 hE6 hE06 HT hK1
      have hi1 : (i : Int) < (ps.length : Int) := by omega
      go_upto_region 9 with fail
      go_wp2_with fail
      go_loopw [11, 12] (fun t q wr => ∃ (j : Nat) (z : Int), q = .int .i64 (j : Int) ∧ j ≤ os.length ∧ t = .int .i64 z ∧ -1 - 128 * (j : Int) ≤ z ∧ z ≤ 44000 + 128 * (j : Int) ∧ Ext w6 wr) (fun _ q _ => os.length - (intOf q).toNat)
      case atStart => exact ⟨0, tz, rfl, Nat.zero_le _, rfl, by omega, by omega, Ext.refl _⟩
      case round =>
        obtain ⟨j, z, rfl, hj, rfl, hz1, hz2, hE7⟩ := hrel
        obtain ⟨w7, rfl⟩ : ∃ w7 : World, w7 = wr := ⟨_, rfl⟩
        have x7 := (HBX6.out.ext hE7).four
        have a7 := (HBA6.out.ext hE7).five
        by_cases hjl : j < os.length
        · obtain ⟨bo, oo, rfl, -, hco⟩ := KO.out.at j hjl
          have hxb := HO.out _ (List.getElem_mem hjl)
          have HCO := Lib.hid (fun (w' : World) (h : Ext w7 w') => hco w' ((HEw6.out.trans hE7).trans h))
          clear hco
          generalize os[j] = x at *
          obtain ⟨y, hy⟩ : ∃ y : Int, x.tmod (ps.length : Int) = y := ⟨_, rfl⟩
          have hye : x % (ps.length : Int) = y := by rw [← Int.tmod_eq_emod_of_nonneg hxb.1]; exact hy
          have hy0 : 0 ≤ y := by rw [← hye]; exact Int.emod_nonneg _ (by omega)
          have hy1 : y < (ps.length : Int) := by rw [← hye]; exact Int.emod_lt_of_pos _ (by omega)
          have hwx : IntKind.i64.wrap x = x := IntWalk.i64_in _ (by omega)
          have hwy : IntKind.i64.wrap y = y := IntWalk.i64_in _ (by omega)
          have hwt : IntKind.i64.wrap (x.tmod (ps.length : Int)) = y := by rw [hy]; exact hwy
          have hl3 : ps ≠ [] := by intro e; rw [e] at hlt; simp at hlt
          have hl4 : ¬ ps.length = 0 := by omega
          have hl5 : ¬ (ps.length : Int) = 0 := by omega
          have hj0 : (0 : Int) ≤ (j : Int) := by omega
          have hj1 : (j : Int) < (os.length : Int) := by omega
          have HK7 : Hid (∀ w', Ext w7 w' → (w'.cell? ⟨w.heap.size, 1, none⟩ = some (.slice (some ⟨bo, oo, none⟩) os.length co) ∧ w'.cell? ⟨w.heap.size, 2, none⟩ = some (.slice Ab bs.length cb) ∧ w'.cell? ⟨ga, 0, none⟩ = some (.slice (some ⟨b, o, none⟩) ps.length n0) ∧ w'.cell? ⟨bo, oo + j, none⟩ = some (.int .u8 x))) := fun w' h => ⟨(HBX6.out.ext (hE7.trans h)).cell 1, (HBX6.out.ext (hE7.trans h)).cell 2, (HBA6.out.ext (hE7.trans h)).cell 0, HCO.out w' h⟩
          have k7 := HK7.out w7 (Ext.refl _)
          clear x7 a7 hye
          go_upto_region 12 with fail
          go_cut [74] (fun bx wx => bx = .bool (decide (y = (i : Int) ∧ j < bs.length)) ∧ Ext w7 wx)
          case first =>
            by_cases hyi : y = (i : Int)
            · by_cases hjb : j < bs.length
              · have hd : decide (y = (i : Int) ∧ j < bs.length) = true := decide_eq_true ⟨hyi, hjb⟩
                have hg : (y == (i : Int)) = true := by rw [hyi]; exact beq_self_eq_true _
                have hb2 : decide ((j : Int) < (bs.length : Int)) = true := decide_eq_true (by omega)
                go_region_held3 (fun w' => w'.cell? ⟨w.heap.size, 1, none⟩ = some (.slice (some ⟨bo, oo, none⟩) os.length co) ∧ w'.cell? ⟨w.heap.size, 2, none⟩ = some (.slice Ab bs.length cb) ∧ w'.cell? ⟨ga, 0, none⟩ = some (.slice (some ⟨b, o, none⟩) ps.length n0) ∧ w'.cell? ⟨bo, oo + j, none⟩ = some (.int .u8 x))
                  (first | (refine HK7.out _ ?_; (repeat (first | with_reducible assumption | with_reducible exact Ext.refl _ | with_reducible refine Ext.drew ?_ | with_reducible refine Ext.drewN ?_ _ | with_reducible refine Ext.alloc ?_ _ | with_reducible refine Ext.set2 ?_ (by omega) _ _ | with_reducible refine Ext.setCell ?_ (by first | omega | (simp; done) | (simp; omega)) _ | with_reducible refine Ext.trans ?_ (by with_reducible assumption))); done))
                  (first | (fail))
                go_wp2_with fail
                go_meet
                exact ⟨by rw [hd], by (repeat (first | with_reducible assumption | with_reducible exact Ext.refl _ | with_reducible refine Ext.drew ?_ | with_reducible refine Ext.drewN ?_ _ | with_reducible refine Ext.alloc ?_ _ | with_reducible refine Ext.set2 ?_ (by omega) _ _ | with_reducible refine Ext.setCell ?_ (by first | omega | (simp; done) | (simp; omega)) _ | with_reducible refine Ext.trans ?_ (by with_reducible assumption)))⟩
              · have hd : decide (y = (i : Int) ∧ j < bs.length) = false := decide_eq_false (fun h => hjb h.2)
                have hg : (y == (i : Int)) = true := by rw [hyi]; exact beq_self_eq_true _
                have hb2 : decide ((j : Int) < (bs.length : Int)) = false := decide_eq_false (by omega)
                go_region_held3 (fun w' => w'.cell? ⟨w.heap.size, 1, none⟩ = some (.slice (some ⟨bo, oo, none⟩) os.length co) ∧ w'.cell? ⟨w.heap.size, 2, none⟩ = some (.slice Ab bs.length cb) ∧ w'.cell? ⟨ga, 0, none⟩ = some (.slice (some ⟨b, o, none⟩) ps.length n0) ∧ w'.cell? ⟨bo, oo + j, none⟩ = some (.int .u8 x))
                  (first | (refine HK7.out _ ?_; (repeat (first | with_reducible assumption | with_reducible exact Ext.refl _ | with_reducible refine Ext.drew ?_ | with_reducible refine Ext.drewN ?_ _ | with_reducible refine Ext.alloc ?_ _ | with_reducible refine Ext.set2 ?_ (by omega) _ _ | with_reducible refine Ext.setCell ?_ (by first | omega | (simp; done) | (simp; omega)) _ | with_reducible refine Ext.trans ?_ (by with_reducible assumption))); done))
                  (first | (fail))
                go_wp2_with fail
                go_meet
                exact ⟨by rw [hd], by (repeat (first | with_reducible assumption | with_reducible exact Ext.refl _ | with_reducible refine Ext.drew ?_ | with_reducible refine Ext.drewN ?_ _ | with_reducible refine Ext.alloc ?_ _ | with_reducible refine Ext.set2 ?_ (by omega) _ _ | with_reducible refine Ext.setCell ?_ (by first | omega | (simp; done) | (simp; omega)) _ | with_reducible refine Ext.trans ?_ (by with_reducible assumption)))⟩
            · have hd : decide (y = (i : Int) ∧ j < bs.length) = false := decide_eq_false (fun h => hyi h.1)
              have hg : (y == (i : Int)) = false := beq_eq_false_iff_ne.2 hyi
              go_quiet (fail)
              go_wp2_with fail
              go_meet
              exact ⟨by rw [hd], by (repeat (first | with_reducible assumption | with_reducible exact Ext.refl _ | with_reducible refine Ext.drew ?_ | with_reducible refine Ext.drewN ?_ _ | with_reducible refine Ext.alloc ?_ _ | with_reducible refine Ext.set2 ?_ (by omega) _ _ | with_reducible refine Ext.setCell ?_ (by first | omega | (simp; done) | (simp; omega)) _ | with_reducible refine Ext.trans ?_ (by with_reducible assumption)))⟩
          case rest =>
            obtain ⟨rfl, hEx⟩ := hcut
            have hE7c := hE7.trans hEx
            have kc := HK7.out wc hEx
            clear k7 hwt hwx hwy hy
            by_cases hc : y = (i : Int) ∧ j < bs.length
            · obtain ⟨b3, o3, rfl, -, hcb⟩ := KB.out.at j hc.2
              have hzb := HB.out _ (List.getElem_mem hc.2)
              have cb3 := hcb wc (HEw6.out.trans hE7c)
              generalize bs[j] = u at *
              have hj2 : (j : Int) < (bs.length : Int) := by omega
              rw [decide_eq_true hc]
              clear hcb hc
              go_wp2
              exact ⟨⟨j + 1, z + u, by go_num, by omega, rfl, by push_cast; omega, by push_cast; omega, hE7c⟩, by (simp [intOf] <;> omega)⟩
            · rw [decide_eq_false hc]
              clear hc
              go_wp2
              exact ⟨⟨j + 1, z, by go_num, by omega, rfl, by push_cast; omega, by push_cast; omega, hE7c⟩, by (simp [intOf] <;> omega)⟩
        · obtain rfl : j = os.length := by omega
          go_wp2_with fail
          obtain ⟨w8, hw8⟩ : ∃ w8 : World, w8 = w7.alloc (.cells #[] 3) := ⟨_, rfl⟩
          rw [← hw8]
          have hE8 : Ext w6 w8 := by rw [hw8]; exact hE7.alloc _
          have hN8 : IsNums w8 (.slice (some ⟨w7.heap.size, 0, none⟩) 0 0) [] := by
            rw [hw8]
            exact OwnNums.nums (base := 0) (xs := []) (own_blk0 (Blk.newAt _ _ _ rfl) (Nat.zero_le _))
          have hzz : -200000000 ≤ z ∧ z ≤ 200000000 := by omega
          have HN8 := Lib.hid hN8
          clear hw8 hN8 hE7 x7 a7 hz1 hz2 hj
          go_loopw [13, 14] (fun hv q wr => ∃ (j : Nat) (us : List Int), q = .int .i64 (j : Int) ∧ j ≤ ys.length ∧ us.length ≤ 1 ∧ Hid (IsNums wr hv us) ∧ Ext w6 wr) (fun _ q _ => ys.length - (intOf q).toNat)
          case atStart => exact ⟨0, [], rfl, Nat.zero_le _, by simp, HN8, hE8⟩
          case round =>
            obtain ⟨j, us, rfl, hj, hul, hN, hE9⟩ := hrel
            obtain ⟨w9, rfl⟩ : ∃ w9 : World, w9 = wr := ⟨_, rfl⟩
            obtain ⟨Au, cu, rfl⟩ := nums_shape hN.out
            have x9 := (HBX6.out.ext hE9).four
            by_cases hjl : j < ys.length
            · obtain ⟨bo, oo, rfl, -, hco⟩ := KY.out.at j hjl
              have hxb := HY.out _ (List.getElem_mem hjl)
              have HCO := Lib.hid (fun (w' : World) (h : Ext w9 w') => hco w' ((HEw6.out.trans hE9).trans h))
              clear hco
              generalize ys[j] = x at *
              obtain ⟨q, hq⟩ : ∃ q : Int, x / 4 = q := ⟨_, rfl⟩
              have hq0 : 0 ≤ q ∧ q ≤ 255 := by omega
              have hqt : x.tdiv 4 = q := by rw [Int.tdiv_eq_ediv_of_nonneg hxb.1]; exact hq
              obtain ⟨y, hy⟩ : ∃ y : Int, q.tmod (ps.length : Int) = y := ⟨_, rfl⟩
              have hye : q % (ps.length : Int) = y := by rw [← Int.tmod_eq_emod_of_nonneg hq0.1]; exact hy
              have hy0 : 0 ≤ y := by rw [← hye]; exact Int.emod_nonneg _ (by omega)
              have hy1 : y < (ps.length : Int) := by rw [← hye]; exact Int.emod_lt_of_pos _ (by omega)
              have hwx : IntKind.u8.wrap q = q := IntWalk.u8_in _ (by omega)
              have hwx2 : IntKind.u8.wrap (x.tdiv 4) = q := by rw [hqt]; exact hwx
              have hwx3 : IntKind.i64.wrap q = q := IntWalk.i64_in _ (by omega)
              have hwy : IntKind.i64.wrap y = y := IntWalk.i64_in _ (by omega)
              have hwt : IntKind.i64.wrap (q.tmod (ps.length : Int)) = y := by rw [hy]; exact hwy
              have hl3 : ps ≠ [] := by intro e; rw [e] at hlt; simp at hlt
              have hl4 : ¬ ps.length = 0 := by omega
              have hl5 : ¬ (ps.length : Int) = 0 := by omega
              have hj0 : (0 : Int) ≤ (j : Int) := by omega
              have hj1 : (j : Int) < (ys.length : Int) := by omega
              have HK9 : Hid (∀ w', Ext w9 w' → (w'.cell? ⟨w.heap.size, 3, none⟩ = some (.slice (some ⟨bo, oo, none⟩) ys.length cy) ∧ w'.cell? ⟨ga, 0, none⟩ = some (.slice (some ⟨b, o, none⟩) ps.length n0) ∧ w'.cell? ⟨bo, oo + j, none⟩ = some (.int .u8 x))) := fun w' h => ⟨(HBX6.out.ext (hE9.trans h)).cell 3, (HBA6.out.ext (hE9.trans h)).cell 0, HCO.out w' h⟩
              have k9 := HK9.out w9 (Ext.refl _)
              have HQ := Lib.hid hq
              clear x9 hye hq
              go_upto_region 18 with fail
              go_cut [103] (fun bx wx => bx = .bool (decide (y = (i : Int))) ∧ Ext w9 wx)
              case first =>
                by_cases hyi : y = (i : Int)
                · have hd : decide (y = (i : Int)) = true := decide_eq_true hyi
                  have hg : (y == (i : Int)) = true := by rw [hyi]; exact beq_self_eq_true _
                  go_region_held3 (fun w' => w'.cell? ⟨w.heap.size, 3, none⟩ = some (.slice (some ⟨bo, oo, none⟩) ys.length cy) ∧ w'.cell? ⟨ga, 0, none⟩ = some (.slice (some ⟨b, o, none⟩) ps.length n0) ∧ w'.cell? ⟨bo, oo + j, none⟩ = some (.int .u8 x))
                    (first | (refine HK9.out _ ?_; (repeat (first | with_reducible assumption | with_reducible exact Ext.refl _ | with_reducible refine Ext.drew ?_ | with_reducible refine Ext.drewN ?_ _ | with_reducible refine Ext.alloc ?_ _ | with_reducible refine Ext.set2 ?_ (by omega) _ _ | with_reducible refine Ext.setCell ?_ (by first | omega | (simp; done) | (simp; omega)) _ | with_reducible refine Ext.trans ?_ (by with_reducible assumption))); done))
                    (first | (fail))
                  go_wp2_with fail
                  go_meet
                  exact ⟨by rw [hd], by (repeat (first | with_reducible assumption | with_reducible exact Ext.refl _ | with_reducible refine Ext.drew ?_ | with_reducible refine Ext.drewN ?_ _ | with_reducible refine Ext.alloc ?_ _ | with_reducible refine Ext.set2 ?_ (by omega) _ _ | with_reducible refine Ext.setCell ?_ (by first | omega | (simp; done) | (simp; omega)) _ | with_reducible refine Ext.trans ?_ (by with_reducible assumption)))⟩
                · have hd : decide (y = (i : Int)) = false := decide_eq_false hyi
                  have hg : (y == (i : Int)) = false := beq_eq_false_iff_ne.2 hyi
                  go_region_held3 (fun w' => w'.cell? ⟨w.heap.size, 3, none⟩ = some (.slice (some ⟨bo, oo, none⟩) ys.length cy) ∧ w'.cell? ⟨ga, 0, none⟩ = some (.slice (some ⟨b, o, none⟩) ps.length n0) ∧ w'.cell? ⟨bo, oo + j, none⟩ = some (.int .u8 x))
                    (first | (refine HK9.out _ ?_; (repeat (first | with_reducible assumption | with_reducible exact Ext.refl _ | with_reducible refine Ext.drew ?_ | with_reducible refine Ext.drewN ?_ _ | with_reducible refine Ext.alloc ?_ _ | with_reducible refine Ext.set2 ?_ (by omega) _ _ | with_reducible refine Ext.setCell ?_ (by first | omega | (simp; done) | (simp; omega)) _ | with_reducible refine Ext.trans ?_ (by with_reducible assumption))); done))
                    (first | (fail))
                  go_wp2_with fail
                  go_meet
                  exact ⟨by rw [hd], by (repeat (first | with_reducible assumption | with_reducible exact Ext.refl _ | with_reducible refine Ext.drew ?_ | with_reducible refine Ext.drewN ?_ _ | with_reducible refine Ext.alloc ?_ _ | with_reducible refine Ext.set2 ?_ (by omega) _ _ | with_reducible refine Ext.setCell ?_ (by first | omega | (simp; done) | (simp; omega)) _ | with_reducible refine Ext.trans ?_ (by with_reducible assumption)))⟩
              case rest =>
                obtain ⟨rfl, hEx⟩ := hcut
                have hE9c := hE9.trans hEx
                have kc := HK9.out wc hEx
                clear k9 hwt hwx hwy hy hwx2 hwx3 hqt
                by_cases hc : y = (i : Int)
                · rw [decide_eq_true hc]
                  clear hc
                  go_wp2_with fail
                  exact ⟨⟨j + 1, [1 + x % 4], by go_num, by omega, by simp, Lib.hid (RowsOf.one_new _ _ _ rfl (fun u hu => by rw [List.mem_singleton.1 hu]; rfl) rfl), hE9c.alloc _⟩, by (simp [intOf] <;> omega)⟩
                · rw [decide_eq_false hc]
                  have HN2 := Lib.hid (RowsOf.ext hN.out hEx)
                  clear hc
                  go_wp2
                  exact ⟨⟨j + 1, us, by go_num, by omega, hul, HN2, hE9c⟩, by (simp [intOf] <;> omega)⟩
            · obtain rfl : j = ys.length := by omega
              go_wp2_with fail
              go_loopw [15, 16] (fun gv q wr => ∃ (j : Nat) (gb : Bool), q = .int .i64 (j : Int) ∧ gv = .bool gb ∧ Ext w9 wr) (fun _ q _ => os.length - (intOf q).toNat)
              case atStart => exact ⟨bs.length, false, rfl, rfl, Ext.refl _⟩
              case round =>
                obtain ⟨j, gb, rfl, rfl, hE10⟩ := hrel
                obtain ⟨w10, rfl⟩ : ∃ w10 : World, w10 = wr := ⟨_, rfl⟩
                have hE610 := hE9.trans hE10
                have x10 := (HBX6.out.ext hE610).four
                clear x9
                by_cases hjl : j < os.length
                · cases gb with
                  | true =>
                    go_upto_region 24 with fail
                    go_quiet (fail)
                    go_wp2_with fail
                    exact ⟨⟨j + 1, true, by go_num, rfl, by (repeat (first | with_reducible assumption | with_reducible exact Ext.refl _ | with_reducible refine Ext.drew ?_ | with_reducible refine Ext.drewN ?_ _ | with_reducible refine Ext.alloc ?_ _ | with_reducible refine Ext.set2 ?_ (by omega) _ _ | with_reducible refine Ext.setCell ?_ (by first | omega | (simp; done) | (simp; omega)) _ | with_reducible refine Ext.trans ?_ (by with_reducible assumption)))⟩, by (simp [intOf] <;> omega)⟩
                  | false =>
                    obtain ⟨bo, oo, rfl, -, hco⟩ := KO.out.at j hjl
                    have hxb := HO.out _ (List.getElem_mem hjl)
                    have HCO := Lib.hid (fun (w' : World) (h : Ext w10 w') => hco w' ((HEw6.out.trans hE610).trans h))
                    clear hco
                    generalize os[j] = x at *
                    obtain ⟨y, hy⟩ : ∃ y : Int, x.tmod (ps.length : Int) = y := ⟨_, rfl⟩
                    have hye : x % (ps.length : Int) = y := by rw [← Int.tmod_eq_emod_of_nonneg hxb.1]; exact hy
                    have hy0 : 0 ≤ y := by rw [← hye]; exact Int.emod_nonneg _ (by omega)
                    have hy1 : y < (ps.length : Int) := by rw [← hye]; exact Int.emod_lt_of_pos _ (by omega)
                    have hwx : IntKind.i64.wrap x = x := IntWalk.i64_in _ (by omega)
                    have hwy : IntKind.i64.wrap y = y := IntWalk.i64_in _ (by omega)
                    have hwt : IntKind.i64.wrap (x.tmod (ps.length : Int)) = y := by rw [hy]; exact hwy
                    have hl3 : ps ≠ [] := by intro e; rw [e] at hlt; simp at hlt
                    have hl4 : ¬ ps.length = 0 := by omega
                    have hl5 : ¬ (ps.length : Int) = 0 := by omega
                    have hj0 : (0 : Int) ≤ (j : Int) := by omega
                    have hj1 : (j : Int) < (os.length : Int) := by omega
                    obtain ⟨gg, hg⟩ : ∃ gg, (y == (i : Int)) = gg := ⟨_, rfl⟩
                    have hgd : decide (y = (i : Int)) = gg := by rw [← hg]; rfl
                    have HK10 : Hid (∀ w', Ext w10 w' → (w'.cell? ⟨w.heap.size, 1, none⟩ = some (.slice (some ⟨bo, oo, none⟩) os.length co) ∧ w'.cell? ⟨ga, 0, none⟩ = some (.slice (some ⟨b, o, none⟩) ps.length n0) ∧ w'.cell? ⟨bo, oo + j, none⟩ = some (.int .u8 x))) := fun w' h => ⟨(HBX6.out.ext (hE610.trans h)).cell 1, (HBA6.out.ext (hE610.trans h)).cell 0, HCO.out w' h⟩
                    have k10 := HK10.out w10 (Ext.refl _)
                    clear x10 hye
                    go_upto_region 24 with fail
                    go_region_held3 (fun w' => w'.cell? ⟨w.heap.size, 1, none⟩ = some (.slice (some ⟨bo, oo, none⟩) os.length co) ∧ w'.cell? ⟨ga, 0, none⟩ = some (.slice (some ⟨b, o, none⟩) ps.length n0) ∧ w'.cell? ⟨bo, oo + j, none⟩ = some (.int .u8 x))
                      (first | (refine HK10.out _ ?_; (repeat (first | with_reducible assumption | with_reducible exact Ext.refl _ | with_reducible refine Ext.drew ?_ | with_reducible refine Ext.drewN ?_ _ | with_reducible refine Ext.alloc ?_ _ | with_reducible refine Ext.set2 ?_ (by omega) _ _ | with_reducible refine Ext.setCell ?_ (by first | omega | (simp; done) | (simp; omega)) _ | with_reducible refine Ext.trans ?_ (by with_reducible assumption))); done))
                      (first | (fail))
                    go_wp2_with fail
                    exact ⟨⟨j + 1, gg, by go_num, rfl, by (repeat (first | with_reducible assumption | with_reducible exact Ext.refl _ | with_reducible refine Ext.drew ?_ | with_reducible refine Ext.drewN ?_ _ | with_reducible refine Ext.alloc ?_ _ | with_reducible refine Ext.set2 ?_ (by omega) _ _ | with_reducible refine Ext.setCell ?_ (by first | omega | (simp; done) | (simp; omega)) _ | with_reducible refine Ext.trans ?_ (by with_reducible assumption)))⟩, by (simp [intOf] <;> omega)⟩
                · cases gb with
                  | true =>
                    have HF := Lib.hid (And.intro (hS.out.ext (HE06.out.trans hE610)) (And.intro (hBs.out.ext (HE06.out.trans hE610)) (And.intro (HBA6.out.ext hE610) (And.intro (hBr.out.ext (HE06.out.trans hE610)) (And.intro (HBX6.out.ext hE610) (And.intro (HK6.out.trans (KeepT.ext hE610)) (HEw6.out.trans hE610)))))))
                    go_wp2_with fail
                    exact ⟨⟨i + 1, v, hs, by go_num, by omega, by omega, hok, HTK, Lib.hid HF.out.1, Lib.hid HF.out.2.1, Lib.hid HF.out.2.2.1, Lib.hid HF.out.2.2.2.1, Lib.hid HF.out.2.2.2.2.1, Lib.hid HF.out.2.2.2.2.2.1, HF.out.2.2.2.2.2.2⟩, by (simp [intOf] <;> omega)⟩
                  | false =>
                    have hE10c := HE06.out.trans hE610
                    have HK5 := Lib.hid (fun (w' : World) (k : Ext w10 w') => And.intro (HNM.out w' (((HK6.out.trans (KeepT.ext hE610)).trans (KeepT.ext k)).mono (by simp))) (And.intro ((HBA6.out.ext (hE610.trans k)).five) ((hBs.out.ext (hE10c.trans k)).cell 0)))
                    have HS5 := Lib.hid (fun (w' : World) (k : Ext w10 w') => hS.out.ext (hE10c.trans k))
                    have HB5 := Lib.hid (fun (w' : World) (k : Ext w10 w') => And.intro ((hBs.out.ext (hE10c.trans k)).frozen 0) (hBs.out.ext (hE10c.trans k)).lt)
                    have HY5 := Lib.hid (fun (w' : World) (k : Ext w10 w') => (show IsNums w' (.slice Au us.length cu) us from RowsOf.ext hN.out (hE10.trans k)))
                    obtain ⟨Av, cv, rfl⟩ := hS.out.shape
                    obtain ⟨i3, hi3⟩ : ∃ i3 : Int, (i : Int).tmod 3 = i3 := ⟨_, rfl⟩
                    have hi4 : 0 ≤ i3 ∧ i3 ≤ 2 := by rw [← hi3, Int.tmod_eq_emod_of_nonneg (by omega)]; omega
                    have hwi : IntKind.i64.wrap i3 = i3 := IntWalk.i64_in _ (by omega)
                    have hwi2 : IntKind.i64.wrap ((i : Int).tmod 3) = i3 := by rw [hi3]; exact hwi
                    have hwi3 : IntKind.i64.wrap (1 + i3) = 1 + i3 := IntWalk.i64_in _ (by omega)
                    have hi0 : (0 : Int) ≤ (i : Int) := by omega
                    have hlen : hs.length ≤ 100000 := by omega
                    have k5 := HK5.out w10 (Ext.refl _)
                    have f5 := HB5.out w10 (Ext.refl _)
                    have HE10c := Lib.hid hE10c
                    have HE610 := Lib.hid hE610
                    clear hE10 hE9 hE610 hE10c
                    go_upto_region 26 with fail
                    clear x10
                    go_region_law (first | (go_simp; go_at_call 37; (with_reducible refine (held38_any _ _ (nameOf m) z us _ hs _ hlen HNE.out (by omega) (by omega) (HS5.out _ (by (repeat (first | with_reducible assumption | with_reducible exact Ext.refl _ | with_reducible refine Ext.drew ?_ | with_reducible refine Ext.drewN ?_ _ | with_reducible refine Ext.alloc ?_ _ | with_reducible refine Ext.set2 ?_ (by omega) _ _ | with_reducible refine Ext.setCell ?_ (by first | omega | (simp; done) | (simp; omega)) _ | with_reducible refine Ext.trans ?_ (by with_reducible assumption))))) (HY5.out _ (by (repeat (first | with_reducible assumption | with_reducible exact Ext.refl _ | with_reducible refine Ext.drew ?_ | with_reducible refine Ext.drewN ?_ _ | with_reducible refine Ext.alloc ?_ _ | with_reducible refine Ext.set2 ?_ (by omega) _ _ | with_reducible refine Ext.setCell ?_ (by first | omega | (simp; done) | (simp; omega)) _ | with_reducible refine Ext.trans ?_ (by with_reducible assumption)))))).mono ?_); rintro e w11 ⟨v7, kk, rfl, hkk, hS7, hE11⟩; obtain ⟨hs7, hh7⟩ : ∃ x : List HeldD, x = hs.take kk ++ ⟨nameOf m, [z], us⟩ :: hs.drop kk := ⟨_, rfl⟩; rw [← hh7] at hS7; obtain ⟨A7, c7, rfl⟩ := hS7.shape; have HH7 := Lib.hid hh7; clear hh7; have hE07 : Ext w10 w11 := (by (repeat (first | with_reducible assumption | with_reducible exact Ext.refl _ | with_reducible refine Ext.drew ?_ | with_reducible refine Ext.drewN ?_ _ | with_reducible refine Ext.alloc ?_ _ | with_reducible refine Ext.set2 ?_ (by omega) _ _ | with_reducible refine Ext.setCell ?_ (by first | omega | (simp; done) | (simp; omega)) _ | with_reducible refine Ext.trans ?_ (by with_reducible assumption)))); have f7 := HB5.out w11 hE07; have k7 := HK5.out w11 hE07))
                    all_goals
                      have hhs7 := HH7.out
                      have hl7 : hs7.length ≤ i + 1 := by rw [hhs7]; simp; omega
                      have hmem7 : ∀ h ∈ hs7, h ∈ hs ∨ h = ⟨nameOf m, [z], us⟩ := by
                        intro h hh
                        rw [hhs7] at hh
                        rcases List.mem_append.1 hh with hh | hh
                        · exact .inl (List.mem_of_mem_take hh)
                        · rcases List.mem_cons.1 hh with hh | hh
                          · exact .inr hh
                          · exact .inl (List.mem_of_mem_drop hh)
                      have HOK7 : Hid (∀ h ∈ hs7, HeldOk h ∧ h.vals.length = 1) := Lib.hid (fun h hh => by
                        rcases hmem7 h hh with h1 | rfl
                        · exact hok.out h h1
                        · exact ⟨⟨by simp, by (simp only; omega), fun v hv => by rw [List.mem_singleton.1 hv]; omega⟩, rfl⟩)
                      have HNM7 : Hid (∀ h ∈ hs7, ∃ q ∈ ps.take (i + 1), h.name = q.name) := Lib.hid (fun h hh => by
                        rcases hmem7 h hh with h1 | rfl
                        · exact HTK.out h h1
                        · exact HTN.out)
                      obtain ⟨u7, hu7⟩ : ∃ u : Value, u = .slice A7 hs7.length c7 := ⟨_, rfl⟩
                      have hEw7 : Ext wo w11 := HE10c.out.trans hE07
                      have hBs7 := hBs.out.ext hEw7
                      have hS8 : IsShelf (w11.setCell ⟨w.heap.size + 1 + 1, 0, none⟩ u7) u7 hs7 := by
                        rw [hu7]
                        exact hS7.keep (ts := [103, 37, 136, 3]) ((KeepT.refl _ _).set (p := ⟨w.heap.size + 1 + 1, 0, none⟩) hBs7.type (by decide) _) (fun _ h => h)
                      have hBs8 : Blk (w11.setCell ⟨w.heap.size + 1 + 1, 0, none⟩ u7) (w.heap.size + 1 + 1) 30 #[u7] := hBs7.set_ 0 u7
                      have hBa8 := (HBA6.out.ext (HE610.out.trans hE07)).far (p := ⟨w.heap.size + 1 + 1, 0, none⟩) (by show ga ≠ w.heap.size + 1 + 1; omega) u7
                      have hBr8 := (hBr.out.ext hEw7).far (p := ⟨w.heap.size + 1 + 1, 0, none⟩) (by show w.heap.size + 1 ≠ w.heap.size + 1 + 1; omega) u7
                      have hBx8 := (HBX6.out.ext (HE610.out.trans hE07)).far (p := ⟨w.heap.size + 1 + 1, 0, none⟩) (by show w.heap.size ≠ w.heap.size + 1 + 1; omega) u7
                      have hK8 : KeepT [62] w2 (w11.setCell ⟨w.heap.size + 1 + 1, 0, none⟩ u7) := (HK6.out.trans (KeepT.ext (HE610.out.trans hE07))).set (p := ⟨w.heap.size + 1 + 1, 0, none⟩) hBs7.type (by decide) _
                      have hE8 : Ext w (w11.setCell ⟨w.heap.size + 1 + 1, 0, none⟩ u7) := ((HEw6.out.trans HE610.out).trans hE07).setCell (by show w.heap.size ≤ w.heap.size + 1 + 1; omega) _
                      have HF := Lib.hid (And.intro hS8 (And.intro hBs8 (And.intro hBa8 (And.intro hBr8 (And.intro hBx8 (And.intro hK8 hE8))))))
                      rw [hu7] at HF
                      clear hS8 hBs8 hBa8 hBr8 hBx8 hK8 hE8 hu7 hBs7 hhs7 hmem7
                      go_wp2
                      exact ⟨⟨i + 1, .slice A7 hs7.length c7, hs7, by go_num, by omega, hl7, HOK7, HNM7, Lib.hid HF.out.1, Lib.hid HF.out.2.1, Lib.hid HF.out.2.2.1, Lib.hid HF.out.2.2.2.1, Lib.hid HF.out.2.2.2.2.1, Lib.hid HF.out.2.2.2.2.2.1, HF.out.2.2.2.2.2.2⟩, by (simp [intOf] <;> omega)⟩
    · obtain rfl : i = ps.length := by omega
      obtain ⟨Av, cv, rfl⟩ := hS.out.shape
      have hz := hBs.out.cell 0
      have y0 := hBr.out.cell 0
      have y1 := hBr.out.frozen 0
      have y2 := hBr.out.lt
      have hS8 := Lib.hid (hS.out.keep (ts := [103, 37, 136, 3]) ((KeepT.refl _ _).set (p := ⟨w.heap.size + 1, 0, none⟩) hBr.out.type (by decide) (.slice Av hs.length cv)) (fun _ h => h))
      go_wp2
      refine bodyPost_ret (v := .agg #[.slice Av hs.length cv]) (by simp [results, Tryz.results9, go_sem, y0, y2]) rfl ?_
      exact ⟨_, hs, rfl, hok.out, by omega, hS8.out, hEr.setCell (by show w.heap.size ≤ w.heap.size + 1; omega) _⟩

end Go.Proofs.YtddgjlfniabehaaGreatDoor
