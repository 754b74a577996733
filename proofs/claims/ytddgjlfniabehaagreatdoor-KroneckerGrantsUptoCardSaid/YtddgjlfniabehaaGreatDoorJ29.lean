/-
  The plain law of more granted hypotheses.
  The law on more granted hypotheses: what it computes.
-/
import Derived.Test.YtddgjlfniabehaaGreatDoorJ17
import Derived.Test.YtddgjlfniabehaaGreatDoorJ26
import Derived.Test.YtddgjlfniabehaaGreatDoorJ22
set_option linter.unusedVariables false
set_option linter.unusedSimpArgs false

/- The plain law of more granted hypotheses. -/
namespace Go.Proofs.YtddgjlfniabehaaGreatDoor

theorem within_mono {a l m : List Int} (h : ∀ x ∈ l, x ∈ m) (k : within a l = true) : within a m = true := by
  unfold within at *
  rw [List.all_eq_true] at *
  intro x hx
  have := k x hx
  simp only [List.contains_iff_mem] at *
  exact h x this
theorem bestOf_isSome (g : List Int) (l : List HeldD) : (bestOf g l).isSome = l.any fun h => within h.hyps g := by
  have key : ∀ (l : List HeldD) (b : Option HeldD), (l.foldl (bestStep g) b).isSome = (b.isSome || l.any fun h => within h.hyps g) := by
    intro l
    induction l with
    | nil => intro b; simp
    | cons h l ih =>
      intro b
      rw [List.foldl_cons, ih, List.any_cons]
      cases b with
      | none =>
        unfold bestStep
        cases within h.hyps g <;> simp
      | some x =>
        unfold bestStep
        simp only [Option.isSome_some, Bool.true_or]
        split <;> simp
  unfold bestOf
  rw [key]; simp
theorem best_none {hs : List HeldD} {nm : List UInt8} {g : List Int} (h : (best hs nm g).isSome = false) : ∀ x ∈ findH hs nm, within x.hyps g = false := by
  intro x hx
  unfold best at h
  rw [bestOf_isSome, List.any_eq_false] at h
  have := h x hx
  simpa using this
theorem none_best {hs : List HeldD} {nm : List UInt8} {g : List Int} (h : ∀ x ∈ findH hs nm, within x.hyps g = false) : (best hs nm g).isSome = false := by
  unfold best
  rw [bestOf_isSome, List.any_eq_false]
  intro x hx
  simp [h x hx]
theorem part_some {hs : List HeldD} {p : PartD} {g : List Int} (hv : ∀ h ∈ hs, h.vals.length = 1) (ha : p.at_ = 0) : (partVal (best hs p.name g) p).isSome = (best hs p.name g).isSome := by
  cases hb : best hs p.name g with
  | none => rfl
  | some x =>
    have := hv x (best_mem hb)
    unfold partVal
    simp [ha, this]
/-- More hypotheses: no other name is missing; what is missing needs one. -/
theorem grants_law {hs : List HeldD} {ps : List PartD} {few more : List Int} (hv : ∀ h ∈ hs, h.vals.length = 1) (ha : ∀ p ∈ ps, p.at_ = 0) :
    (∀ x ∈ sortedOf (missK hs (few ++ more) ps), x ∈ sortedOf (missK hs few ps)) ∧ ∀ x ∈ sortedOf (missK hs (few ++ more) ps), ∀ h ∈ findH hs x, h.hyps ≠ [] := by
  have key : ∀ x ∈ sortedOf (missK hs (few ++ more) ps), ∃ p ∈ ps, p.name = x ∧ (best hs x (few ++ more)).isSome = false := by
    intro x hx
    rw [sortedOf_mem] at hx
    unfold missK at hx
    obtain ⟨p, hp, rfl⟩ := List.mem_map.1 hx
    obtain ⟨hp1, hp2⟩ := List.mem_filter.1 hp
    rw [part_some hv (ha p hp1)] at hp2
    exact ⟨p, hp1, rfl, by simpa using hp2⟩
  constructor
  · intro x hx
    obtain ⟨p, hp, rfl, hb⟩ := key x hx
    rw [sortedOf_mem]
    unfold missK
    refine List.mem_map.2 ⟨p, List.mem_filter.2 ⟨hp, ?_⟩, rfl⟩
    rw [part_some hv (ha p hp)]
    have := none_best (hs := hs) (nm := p.name) (g := few) (fun y hy => by
      cases hw : within y.hyps few with
      | false => rfl
      | true =>
        have h1 := within_mono (m := few ++ more) (fun z hz => List.mem_append_left _ hz) hw
        rw [best_none hb y hy] at h1
        cases h1)
    rw [this]; rfl
  · intro x hx h hh e
    obtain ⟨p, hp, rfl, hb⟩ := key x hx
    have h1 := best_none hb h hh
    rw [e] at h1
    simp [within] at h1

end Go.Proofs.YtddgjlfniabehaaGreatDoor

/- The law on more granted hypotheses: what it computes. -/
namespace Go.Proofs.YtddgjlfniabehaaGreatDoor
open Go.RowKit
attribute [local go_sem ↓] Go.wp_at_zero Go.wp_at_succ

theorem nums_cells {w : World} {v : Value} {xs : List Int} (h : IsNums w v xs) : RowsOf 3 1 w v (cellsN xs) := h
theorem own_nums_grown {base : Nat} {w : World} {v : Value} {xs ys : List Int} {n : Nat} (hn : n = xs.length) (h : w.ownsRow base 3 1 v (n + (cellsN ys).length) ((cellsN xs).flatten ++ (cellsN ys).flatten)) : OwnNums base w v (xs ++ ys) := by
  subst hn
  unfold OwnNums
  have e : cellsN (xs ++ ys) = cellsN xs ++ cellsN ys := by simp [cellsN]
  rw [e, List.flatten_append, List.length_append]
  have e2 : (cellsN xs).length = xs.length := by simp [cellsN]
  rw [e2]
  exact h

set_option maxRecDepth 100000 in
set_option maxHeartbeats 8000000 in
theorem grant_walk (hex : ∀ w, Tab w → Calls Tryz.prog 8 #[] w fun e w' => e = .returned (.bool true) ∧ Ext w w')
    (rn : Int) (ov bv yv lv mv : Value) (os bs ys ls ms : List Int) (w : World) (ht : Tab w) (h1 : 0 ≤ rn) (h2 : rn ≤ 255) (hlo : os.length ≤ 1100000) (hlb : bs.length ≤ 1100000) (hly : ys.length ≤ 1100000) (hll : ls.length ≤ 1100000) (hlm : ms.length ≤ 1100000)
    (ho : ∀ b ∈ os, 0 ≤ b ∧ b ≤ 255) (hb : ∀ b ∈ bs, -128 ≤ b ∧ b ≤ 127) (hy : ∀ b ∈ ys, 0 ≤ b ∧ b ≤ 255) (hl : ∀ b ∈ ls, 0 ≤ b ∧ b ≤ 255) (hm : ∀ b ∈ ms, 0 ≤ b ∧ b ≤ 255) (ko : ArgInts .u8 w ov os) (kb : ArgInts .i8 w bv bs) (ky : ArgInts .u8 w yv ys) (kl : ArgInts .u8 w lv ls) (km : ArgInts .u8 w mv ms) :
    Calls Tryz.prog 5 #[.agg #[.int .u8 rn, ov, bv, yv], lv, mv] w fun e w' => e = .returned (.bool true) ∧ Ext w w' := by
  obtain ⟨Ao, co, rfl⟩ := ko.shape
  obtain ⟨Ab, cb, rfl⟩ := kb.shape
  obtain ⟨Ay, cy, rfl⟩ := ky.shape
  obtain ⟨Al, cl, rfl⟩ := kl.shape
  obtain ⟨Am, cm, rfl⟩ := km.shape
  obtain ⟨k, hk, hk1, hk2⟩ : ∃ k : Nat, 1 + rn % 60 = (k : Int) ∧ 1 ≤ k ∧ k ≤ 60 := ⟨(1 + rn % 60).toNat, by omega, by omega, by omega⟩
  have HNUM := Lib.hid (fun (w' : World) => (show Calls Tryz.prog 13 #[.agg #[.int .u8 rn, .slice Ao os.length co, .slice Ab bs.length cb, .slice Ay ys.length cy]] w' fun e w'' => e = .returned (.int .i64 (k : Int)) ∧ Ext w' w'' by rw [← hk]; exact Number38_any rn _ _ _ _ _ _ _ _ _ w' h1 h2))
  have HMADE := Lib.hid (fun (w' : World) (h : Ext w w') => Made38_any rn _ _ _ os bs ys w' h1 h2 hlo hlb hly ho hb hy (ko.ext h) (kb.ext h) (ky.ext h))
  have HGL := Lib.hid (fun (w' : World) (h : Ext w w') => granted_any _ ls w' (by omega) hl (kl.ext h))
  have HGM := Lib.hid (fun (w' : World) (h : Ext w w') => granted_any _ ms w' (by omega) hm (km.ext h))
  have HOWN := Lib.hid (fun (w' : World) (h : Tab w') => AuditK_R k w' hk1 (by omega) h)
  have hp5 : (partsR k (4 * k + 1)).length ≤ 5000 := by have := partsR_len k (4 * k + 1); omega
  have HPT := Lib.hid (fun (q : PartD) (hq : q ∈ partsR k (4 * k + 1)) => parts_tw hq)
  have HPS := Lib.hid (fun (q : PartD) (hq : q ∈ partsR k (4 * k + 1)) => parts_short (by omega) hq)
  have HPA := Lib.hid (fun (q : PartD) (hq : q ∈ partsR k (4 * k + 1)) => (show q.at_ = 0 by obtain ⟨m, _, rfl⟩ := parts_mem hq; rfl))
  have HEX := Lib.hid hex
  have HTAB := Lib.hid ht
  have hlf : (grantedOf ls).length = ls.length := by simp [grantedOf]
  have hlg : (grantedOf ms).length = ms.length := by simp [grantedOf]
  clear ht ho hb hy hl hm ko kb ky kl km hk hex
  generalize partsR k (4 * k + 1) = ps at *
  generalize ((tot k k : Int) : Rat) = tt at *
  generalize grantedOf ls = few at *
  generalize grantedOf ms = more at *
  have hlf2 : few.length ≤ 1100000 := by omega
  have hlg2 : more.length ≤ 1100000 := by omega
  have HLF := Lib.hid hlf
  have HLG := Lib.hid hlg
  clear hlf hlg
  go_enter Tryz.func5, Tryz.ntmps5
  go_upto_region 1 with fail
  obtain ⟨W, hW⟩ : ∃ W : World, W = w.alloc (.cells #[.int .u8 rn, .slice Ao os.length co, .slice Ab bs.length cb, .slice Ay ys.length cy] 25) := ⟨_, rfl⟩
  rw [← hW]
  have hE : Ext w W := by rw [hW]; exact (Ext.refl w).alloc _
  have HBX : Hid (Blk W w.heap.size 25 #[.int .u8 rn, .slice Ao os.length co, .slice Ab bs.length cb, .slice Ay ys.length cy]) := by rw [hW]; exact Lib.hid (Blk.newAt _ _ _ rfl)
  clear hW
  generalize w.heap.size = gx at *
  go_wp2_with fail
  refine (HEX.out W (HTAB.out.ext hE)).mono ?_
  rintro e w1 ⟨rfl, hE1⟩
  have x4 := (HBX.out.ext hE1).four
  go_upto_region 4 with fail
  go_wp2_with fail
  refine (HMADE.out w1 (hE.trans hE1)).mono ?_
  rintro e w2 ⟨v2, hs, rfl, hok, hhl, hS2, hE2⟩
  obtain ⟨A8, c8, rfl⟩ := hS2.shape
  clear x4
  go_upto_region 5 with fail
  obtain ⟨w3, hw3⟩ : ∃ w3 : World, w3 = w2.alloc (.cells #[.slice A8 hs.length c8] 30) := ⟨_, rfl⟩
  rw [← hw3]
  have hE23 : Ext w2 w3 := by rw [hw3]; exact (Ext.refl _).alloc _
  have HBS : Hid (Blk w3 w2.heap.size 30 #[.slice A8 hs.length c8]) := by rw [hw3]; exact Lib.hid (Blk.newAt _ _ _ rfl)
  have HS := Lib.hid (hS2.ext hE23)
  have HOK := Lib.hid (fun h hh => (hok h hh).1)
  have HV1 := Lib.hid (fun h hh => (hok h hh).2)
  have HE3 := Lib.hid (((hE.trans hE1).trans hE2).trans hE23)
  have x4 := (HBX.out.ext ((hE1.trans hE2).trans hE23)).four
  clear hw3 hS2 hE23 hok hE2 hE1 hE HMADE HEX HBX
  generalize w2.heap.size = g8 at *
  go_wp2_with fail
  refine (HNUM.out w3).mono ?_
  rintro e w4 ⟨rfl, hE4⟩
  clear x4
  go_wp2_with fail
  refine (HOWN.out w4 (HTAB.out.ext (HE3.out.trans hE4))).mono ?_
  rintro e w5 ⟨v5, a5, b5, c5, d5, rfl, hP5, hQ5, hE5⟩
  obtain ⟨A0, n0, rfl⟩ := hP5.shape
  obtain ⟨s1, A1, n1, c1, s2, A2, n2, c2, rfl, rfl, rfl, rfl⟩ := hQ5.form
  go_upto_region 6 with fail
  obtain ⟨w6, hw6⟩ : ∃ w6 : World, w6 = w5.alloc (.cells #[.slice A0 ps.length n0, .bool s1, .slice A1 n1 c1, .bool s2, .slice A2 n2 c2] 41) := ⟨_, rfl⟩
  rw [← hw6]
  have hE56 : Ext w5 w6 := by rw [hw6]; exact (Ext.refl _).alloc _
  have HBA : Hid (Blk w6 w5.heap.size 41 #[.slice A0 ps.length n0, .bool s1, .slice A1 n1 c1, .bool s2, .slice A2 n2 c2]) := by rw [hw6]; exact Lib.hid (Blk.newAt _ _ _ rfl)
  have HP := Lib.hid (hP5.ext hE56)
  have HQ := Lib.hid (hQ5.ext hE56)
  have HE36 := Lib.hid ((hE4.trans hE5).trans hE56)
  have HE6 := Lib.hid (HE3.out.trans HE36.out)
  clear hw6 hP5 hQ5 hE56 hE4 hE5 HNUM HOWN
  generalize w5.heap.size = ga at *
  go_wp2_with fail
  refine (HGL.out w6 HE6.out).mono ?_
  rintro e w7 ⟨v7, rfl, hG7, hE7⟩
  have hN7 := OwnNums.nums hG7
  clear hG7
  obtain ⟨A7, c7, rfl⟩ := IsNums.shape hN7
  have HN7 := Lib.hid hN7
  have rn0 := run_none_nums
  clear hN7
  go_upto_region 7 with fail
  go_wp2_with (with_reducible refine stop_at 37 ?_)
  clear rn0
  have HEW7 := Lib.hid (HE6.out.trans hE7)
  refine wpList_append_rows rfl (.tmp 35) (.tmp 36) _ rfl w7.heap.size 3 1 8 Tryz.underlying32 int_info (by decide) (.slice (some ⟨w7.heap.size, 0, none⟩) 0 0) 0 (cellsN []).flatten rfl (own_blk0 (Blk.newAt _ _ _ rfl) (Nat.le_refl _)) _ (cellsN few) rfl (nums_cells (IsNums.ext HN7.out ((Ext.refl _).alloc _))) (by simp [cellsN]; unfold maxLen; omega) (by simp [cellsN]; omega) (by simp) ?_
  intro v8 w8 hown8 hgr8
  have hO8 : OwnNums w7.heap.size w8 v8 few := own_nums_grown (xs := []) (ys := few) rfl hown8
  have hE8 : Ext w7 w8 := ((Ext.refl w7).alloc (.cells #[] 3)).grown hgr8 (own_block (own_blk0 (e := 3) (k := 1) (Blk.newAt w7 _ _ rfl) (Nat.le_refl _)))
  have HO8 := Lib.hid hO8
  obtain ⟨B8, d8, rfl⟩ := OwnNums.shape hO8
  have HE78 := Lib.hid hE8
  clear hown8 hgr8 hO8 hE8
  go_wp2_with fail
  refine (HGM.out w8 (HEW7.out.trans HE78.out)).mono ?_
  rintro e w9 ⟨v9, rfl, hG9, hE9⟩
  have hN9 := OwnNums.nums hG9
  clear hG9
  obtain ⟨A9, c9, rfl⟩ := IsNums.shape hN9
  have HN9 := Lib.hid hN9
  clear hN9
  go_wp2_with (with_reducible refine stop_at 40 ?_)
  have ho8 := own_ext HO8.out hE9
  have hcl : (cellsN few).length = few.length := by simp [cellsN]
  rw [hcl] at ho8
  have hcm : (cellsN more).length = more.length := by simp [cellsN]
  have hs79 := (HE78.out.trans hE9).size'
  refine wpList_append_rows rfl (.tmp 37) (.tmp 39) _ rfl w7.heap.size 3 1 8 Tryz.underlying32 int_info (by decide) (.slice B8 few.length d8) few.length (cellsN few).flatten rfl ho8 _ (cellsN more) rfl (nums_cells HN9.out) (by rw [hcm]; unfold maxLen; omega) (by rw [hcm]; omega) (by omega) ?_
  intro va wa howna hgra
  have hOa : OwnNums w7.heap.size wa va (few ++ more) := own_nums_grown rfl howna
  have hEa : Ext w7 wa := (HE78.out.trans hE9).grown hgra (own_block ho8)
  have HLAW := Lib.hid (grants_law (few := few) (more := more) HV1.out HPA.out)
  obtain ⟨fm, hfm⟩ : ∃ fm : List Int, few ++ more = fm := ⟨_, rfl⟩
  have hlm : fm.length ≤ 100000000 := by rw [← hfm, List.length_append]; omega
  rw [hfm] at hOa HLAW
  clear hfm howna hgra
  have hNa := OwnNums.nums hOa
  obtain ⟨Ba, da, rfl⟩ := OwnNums.shape hOa
  have hE6a : Ext w6 wa := hE7.trans hEa
  have HBA2 := Lib.hid (HBA.out.ext hE6a)
  have HBS2 := Lib.hid (HBS.out.ext (HE36.out.trans hE6a))
  have HP2 := Lib.hid (HP.out.ext hE6a)
  have HQ2 := Lib.hid (HQ.out.ext hE6a)
  have HS2 := Lib.hid (HS.out.ext (HE36.out.trans hE6a))
  have HF2 := Lib.hid (IsNums.ext HN7.out hEa)
  have HM2 := Lib.hid hNa
  have HEWa := Lib.hid (HE6.out.trans hE6a)
  have hlfp : (sortedOf (missK hs few ps)).length ≤ 5000 := by rw [← sumMissR_eq]; exact Nat.le_trans (sumMissR_len _ _ _) hp5
  have hlmp : (sortedOf (missK hs fm ps)).length ≤ 5000 := by rw [← sumMissR_eq]; exact Nat.le_trans (sumMissR_len _ _ _) hp5
  have HSF := Lib.hid (fun (w' : World) (h : Ext wa w') => SumK_any _ _ _ _ _ _ _ ps tt hs few w' hp5 (by omega) (by omega) HOK.out HPT.out HPS.out (HP2.out.ext h) (HQ2.out.ext h) (HS2.out.ext h) (HF2.out.ext h))
  have HSMM := Lib.hid (fun (w' : World) (h : Ext wa w') => SumK_any _ _ _ _ _ _ _ ps tt hs fm w' hp5 (by omega) hlm HOK.out HPT.out HPS.out (HP2.out.ext h) (HQ2.out.ext h) (HS2.out.ext h) (HM2.out.ext h))
  have HFI := Lib.hid (fun (w' : World) (nm : List UInt8) (h : Ext wa w') => Find36_any (.slice A8 hs.length c8) nm hs w' (by omega) (HS2.out.ext h))
  clear hOa hEa hNa ho8 hcl hcm hs79 hE9 hE7 hE6a HO8 HE78 HN9 HN7 HGL HGM HEW7 HE6 HE36 HBA HBS HP HQ HS HE3 HTAB hlm
  generalize sumVal hs few ps = v1 at *
  generalize sumVal hs fm ps = v2 at *
  generalize sortedOf (missK hs few ps) = pl at *
  generalize sortedOf (missK hs fm ps) = ql at *
  go_upto_region 8 with fail
  have f1 := HBA2.out.five
  have f2 := HBS2.out.cell 0
  go_wp2_with fail
  refine (HSF.out wa (Ext.refl _)).mono ?_
  rintro e wb ⟨ab, bb, cb', db, mb, rfl, hqb, hmb, hEb⟩
  obtain ⟨s3, A3, n3, c3, s4, A4, n4, c4, rfl, rfl, rfl, rfl⟩ := hqb.form
  obtain ⟨Mp, cp, rfl⟩ := hmb.shape
  clear f1 f2
  go_upto_region 9 with fail
  obtain ⟨wc, hwc⟩ : ∃ wc : World, wc = wb.alloc (.cells #[.bool s3, .slice A3 n3 c3, .bool s4, .slice A4 n4 c4] 39) := ⟨_, rfl⟩
  rw [← hwc]
  have hEbc : Ext wb wc := by rw [hwc]; exact (Ext.refl _).alloc _
  have hEac := hEb.trans hEbc
  have HMP := Lib.hid (hmb.ext hEbc)
  have f1 := (HBA2.out.ext hEac).five
  have f2 := (HBS2.out.ext hEac).cell 0
  clear hwc hqb hmb hEb hEbc
  generalize wb.heap.size = gv at *
  go_wp2_with fail
  refine (HSMM.out wc hEac).mono ?_
  rintro e wd ⟨ad, bd, cd, dd, md, rfl, hqd, hmd, hEd⟩
  obtain ⟨s5, A5, n5, c5, s6, A6, n6, c6, rfl, rfl, rfl, rfl⟩ := hqd.form
  obtain ⟨Mq, cq, rfl⟩ := hmd.shape
  clear f1 f2
  go_upto_region 10 with fail
  obtain ⟨we, hwe⟩ : ∃ we : World, we = wd.alloc (.cells #[.bool s5, .slice A5 n5 c5, .bool s6, .slice A6 n6 c6] 39) := ⟨_, rfl⟩
  rw [← hwe]
  have hEde : Ext wd we := by rw [hwe]; exact (Ext.refl _).alloc _
  have hEce := hEd.trans hEde
  have HMQ := Lib.hid (hmd.ext hEde)
  have HMP2 := Lib.hid (HMP.out.ext hEce)
  have HEae := Lib.hid (hEac.trans hEce)
  clear hwe hqd hmd hEd hEde hEce hEac HMP HSF HSMM
  generalize wd.heap.size = gv2 at *
  go_wp2_with fail
  go_loopw [17] (fun t wr => ∃ i : Nat, t = .int .i64 (i : Int) ∧ i ≤ ql.length ∧ Ext we wr) (fun t _ => ql.length - (intOf t).toNat)
  case atStart => exact ⟨0, rfl, Nat.zero_le _, Ext.refl _⟩
  case round =>
    obtain ⟨i, rfl, hi, hEr⟩ := hrel
    obtain ⟨wo, rfl⟩ : ∃ wo : World, wo = wr := ⟨_, rfl⟩
    by_cases hlt : i < ql.length
    · have hin := HLAW.out.1 _ (List.getElem_mem hlt)
      obtain ⟨bq, oq, rfl, -, hcq⟩ := HMQ.out.at i hlt
      have HCQ := Lib.hid (fun (w' : World) (h : Ext wo w') => hcq w' (KeepT.ext (hEr.trans h)))
      clear hcq
      generalize ql[i] = x at *
      have HIN := Lib.hid hin
      clear hin
      go_upto_region 14 with fail
      go_wp2_with fail
      go_loopw [18, 19] (fun b t wr => ∃ (j : Nat) (c : Bool), b = .bool c ∧ t = .int .i64 (j : Int) ∧ j ≤ pl.length ∧ Hid (c = decide (x ∈ pl.take j)) ∧ Ext wo wr) (fun _ t _ => pl.length - (intOf t).toNat)
      case atStart => exact ⟨0, false, rfl, rfl, Nat.zero_le _, Lib.hid (by simp), Ext.refl _⟩
      case round =>
        obtain ⟨j, c, rfl, rfl, hj, hc, hEs⟩ := hrel
        obtain ⟨ws, rfl⟩ : ∃ ws : World, ws = wr := ⟨_, rfl⟩
        by_cases hjl : j < pl.length
        · cases c with
          | true =>
            have hc2 := Lib.hid (show true = decide (x ∈ pl.take (j + 1)) by
              symm
              refine decide_eq_true ?_
              have h3 : x ∈ pl.take j := of_decide_eq_true hc.out.symm
              rw [List.take_succ_eq_append_getElem hjl]
              exact List.mem_append_left _ h3)
            go_upto_region 17 with fail
            go_quiet (fail)
            go_wp2_with fail
            exact ⟨⟨j + 1, true, rfl, by go_num, by omega, hc2, by (repeat (first | with_reducible assumption | with_reducible exact Ext.refl _ | with_reducible refine Ext.drew ?_ | with_reducible refine Ext.drewN ?_ _ | with_reducible refine Ext.alloc ?_ _ | with_reducible refine Ext.set2 ?_ (by omega) _ _ | with_reducible refine Ext.setCell ?_ (by first | omega | (simp; done) | (simp; omega)) _ | with_reducible refine Ext.trans ?_ (by with_reducible assumption)))⟩, by (simp [intOf] <;> omega)⟩
          | false =>
            obtain ⟨bp, op, rfl, -, hcp⟩ := HMP2.out.at j hjl
            have hnx : ¬ x ∈ pl.take j := of_decide_eq_false hc.out.symm
            have hc2 : decide (x ∈ pl.take (j + 1)) = decide (pl[j] = x) := by
              rw [List.take_succ_eq_append_getElem hjl]
              by_cases h : pl[j] = x
              · rw [decide_eq_true h]
                exact decide_eq_true (List.mem_append_right _ (by rw [h]; exact List.mem_singleton.2 rfl))
              · rw [decide_eq_false h]
                refine decide_eq_false fun h3 => ?_
                rcases List.mem_append.1 h3 with h3 | h3
                · exact hnx h3
                · exact h (List.mem_singleton.1 h3).symm
            generalize pl[j] = y at *
            have HC2 := Lib.hid hc2
            have HK := Lib.hid (fun (w' : World) (h : Ext ws w') => And.intro (hcp w' (KeepT.ext (hEr.trans (hEs.trans h)))) (HCQ.out w' (hEs.trans h)))
            have q0 := HK.out ws (Ext.refl _)
            have hj1 : (j : Int) < (pl.length : Int) := by omega
            have hi1 : (i : Int) < (ql.length : Int) := by omega
            clear hcp hnx hc2
            by_cases hq : y = x
            · have hq1 : (y == x) = true := by simpa using hq
              have HD := Lib.hid (decide_eq_true hq)
              go_upto_region 17 with fail
              go_region_held3 (fun w' => w'.cell? ⟨bp, op + j, none⟩ = some (.string ⟨y.toArray⟩) ∧ w'.cell? ⟨bq, oq + i, none⟩ = some (.string ⟨x.toArray⟩))
                (first | (refine HK.out _ ?_; (repeat (first | with_reducible assumption | with_reducible exact Ext.refl _ | with_reducible refine Ext.drew ?_ | with_reducible refine Ext.drewN ?_ _ | with_reducible refine Ext.alloc ?_ _ | with_reducible refine Ext.set2 ?_ (by omega) _ _ | with_reducible refine Ext.setCell ?_ (by first | omega | (simp; done) | (simp; omega)) _ | with_reducible refine Ext.trans ?_ (by with_reducible assumption))); done))
                (fail)
              go_wp2_with fail
              exact ⟨⟨j + 1, true, rfl, by go_num, by omega, Lib.hid (by rw [HC2.out, HD.out]), by (repeat (first | with_reducible assumption | with_reducible exact Ext.refl _ | with_reducible refine Ext.drew ?_ | with_reducible refine Ext.drewN ?_ _ | with_reducible refine Ext.alloc ?_ _ | with_reducible refine Ext.set2 ?_ (by omega) _ _ | with_reducible refine Ext.setCell ?_ (by first | omega | (simp; done) | (simp; omega)) _ | with_reducible refine Ext.trans ?_ (by with_reducible assumption)))⟩, by (simp [intOf] <;> omega)⟩
            · have hq1 : (y == x) = false := by simpa using hq
              have HD := Lib.hid (decide_eq_false hq)
              go_upto_region 17 with fail
              go_region_held3 (fun w' => w'.cell? ⟨bp, op + j, none⟩ = some (.string ⟨y.toArray⟩) ∧ w'.cell? ⟨bq, oq + i, none⟩ = some (.string ⟨x.toArray⟩))
                (first | (refine HK.out _ ?_; (repeat (first | with_reducible assumption | with_reducible exact Ext.refl _ | with_reducible refine Ext.drew ?_ | with_reducible refine Ext.drewN ?_ _ | with_reducible refine Ext.alloc ?_ _ | with_reducible refine Ext.set2 ?_ (by omega) _ _ | with_reducible refine Ext.setCell ?_ (by first | omega | (simp; done) | (simp; omega)) _ | with_reducible refine Ext.trans ?_ (by with_reducible assumption))); done))
                (fail)
              go_wp2_with fail
              exact ⟨⟨j + 1, false, rfl, by go_num, by omega, Lib.hid (by rw [HC2.out, HD.out]), by (repeat (first | with_reducible assumption | with_reducible exact Ext.refl _ | with_reducible refine Ext.drew ?_ | with_reducible refine Ext.drewN ?_ _ | with_reducible refine Ext.alloc ?_ _ | with_reducible refine Ext.set2 ?_ (by omega) _ _ | with_reducible refine Ext.setCell ?_ (by first | omega | (simp; done) | (simp; omega)) _ | with_reducible refine Ext.trans ?_ (by with_reducible assumption)))⟩, by (simp [intOf] <;> omega)⟩
        · obtain rfl : j = pl.length := by omega
          have hct : c = true := by rw [hc.out, List.take_length]; exact decide_eq_true HIN.out
          subst hct
          go_wp2_with fail
          exact ⟨⟨i + 1, by go_num, by omega, hEr.trans hEs⟩, by (simp [intOf] <;> omega)⟩
    · obtain rfl : i = ql.length := by omega
      go_wp2_with fail
      go_loopw [20] (fun t wr => ∃ i : Nat, t = .int .i64 (i : Int) ∧ i ≤ ql.length ∧ Ext we wr) (fun t _ => ql.length - (intOf t).toNat)
      case atStart => exact ⟨0, rfl, Nat.zero_le _, hEr⟩
      case round =>
        clear hEr
        obtain ⟨i, rfl, hi, hEr⟩ := hrel
        obtain ⟨wo, rfl⟩ : ∃ wo : World, wo = wr := ⟨_, rfl⟩
        by_cases hlt : i < ql.length
        · have hhy := HLAW.out.2 _ (List.getElem_mem hlt)
          obtain ⟨bq, oq, rfl, -, hcq⟩ := HMQ.out.at i hlt
          generalize ql[i] = x at *
          have HHY := Lib.hid hhy
          have HK := Lib.hid (fun (w' : World) (h : Ext wo w') => And.intro (hcq w' (KeepT.ext (hEr.trans h))) ((HBS2.out.ext (HEae.out.trans (hEr.trans h))).cell 0))
          have q0 := HK.out wo (Ext.refl _)
          have hi1 : (i : Int) < (ql.length : Int) := by omega
          clear hcq hhy
          go_upto_region 23 with fail
          go_cut [21] (fun h wx => ∃ (A : Option Addr) (c : Nat), h = .slice A (findH hs x).length c ∧ IsShelf wx (.slice A (findH hs x).length c) (findH hs x) ∧ Ext wo wx)
          case first =>
            go_region_held3 (fun w' => w'.cell? ⟨bq, oq + i, none⟩ = some (.string ⟨x.toArray⟩) ∧ w'.cell? ⟨g8, 0, none⟩ = some (.slice A8 hs.length c8))
              (first | (refine HK.out _ ?_; (repeat (first | with_reducible assumption | with_reducible exact Ext.refl _ | with_reducible refine Ext.drew ?_ | with_reducible refine Ext.drewN ?_ _ | with_reducible refine Ext.alloc ?_ _ | with_reducible refine Ext.set2 ?_ (by omega) _ _ | with_reducible refine Ext.setCell ?_ (by first | omega | (simp; done) | (simp; omega)) _ | with_reducible refine Ext.trans ?_ (by with_reducible assumption))); done))
              (first | (go_at_call 30; (with_reducible refine (HFI.out _ x ?q1).mono ?_); (case q1 => (refine HEae.out.trans (hEr.trans ?_); (repeat (first | with_reducible assumption | with_reducible exact Ext.refl _ | with_reducible refine Ext.drew ?_ | with_reducible refine Ext.drewN ?_ _ | with_reducible refine Ext.alloc ?_ _ | with_reducible refine Ext.set2 ?_ (by omega) _ _ | with_reducible refine Ext.setCell ?_ (by first | omega | (simp; done) | (simp; omega)) _ | with_reducible refine Ext.trans ?_ (by with_reducible assumption))))); rintro e w3 ⟨v3, rfl, hS3, hE3⟩; obtain ⟨A3, c3, rfl⟩ := IsShelf.shape hS3))
            all_goals
              go_wp2_with fail
              go_meet
              exact ⟨_, _, rfl, hS3, by (repeat (first | with_reducible assumption | with_reducible exact Ext.refl _ | with_reducible refine Ext.drew ?_ | with_reducible refine Ext.drewN ?_ _ | with_reducible refine Ext.alloc ?_ _ | with_reducible refine Ext.set2 ?_ (by omega) _ _ | with_reducible refine Ext.setCell ?_ (by first | omega | (simp; done) | (simp; omega)) _ | with_reducible refine Ext.trans ?_ (by with_reducible assumption)))⟩
          case rest =>
            clear q0
            obtain ⟨A3, c3, rfl, hS3, hE3⟩ := hcut
            have hEn := hEr.trans hE3
            by_cases hn : (findH hs x).length = 0
            · rw [hn]
              clear hS3 hn
              go_wp2_with fail
              exact ⟨⟨i + 1, by go_num, by omega, hEn⟩, by (simp [intOf] <;> omega)⟩
            · have hpos : 0 < (findH hs x).length := by omega
              obtain ⟨b, o, l, rfl, hl, -, hr⟩ := hS3.at 0 hpos
              have hne := HHY.out _ (List.getElem_mem hpos)
              obtain ⟨Ah, ch, hl30, -⟩ := hl.hyps
              generalize (findH hs x)[0] = hd at *
              have hcell := hr wc (KeepT.refl _ _) 30 _ hl30
              rw [Nat.zero_mul, Nat.add_zero] at hcell
              have hln : 0 < hd.hyps.length := by
                cases hh : hd.hyps with
                | nil => exact absurd hh hne
                | cons a r => simp
              have hz : ((hd.hyps.length : Int) == 0) = false := beq_eq_false_iff_ne.2 (by omega)
              have hz2 : ¬ hd.hyps = [] := hne
              have hn2 : ¬ findH hs x = [] := by intro e; rw [e] at hpos; simp at hpos
              have hp2 : (0 : Int) < ((findH hs x).length : Int) := by omega
              obtain ⟨m, hm⟩ : ∃ m, (findH hs x).length = m := ⟨_, rfl⟩
              have HSS := Lib.hid hS3
              clear hr hl hl30 hne hS3
              go_wp2_with fail
              exact ⟨⟨i + 1, by go_num, by omega, hEn⟩, by (simp [intOf] <;> omega)⟩
        · obtain rfl : i = ql.length := by omega
          go_wp2
          go_ret
          exact ⟨rfl, HEWa.out.trans (HEae.out.trans hEr)⟩

end Go.Proofs.YtddgjlfniabehaaGreatDoor
