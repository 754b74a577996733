/-
  The law on the class number relation: what it computes.
-/
import Derived.Test.YtekipapkcgoieaaGreatDoorJ33
import Derived.Test.YtekipapkcgoieaaGreatDoorJ35
import Derived.Deep.RegionLaw
set_option linter.unusedVariables false
set_option linter.unusedSimpArgs false

/- The law on the class number relation: what it computes. -/
namespace Go.Proofs.YtekipapkcgoieaaGreatDoor
open Go.RowKit
attribute [local go_sem ↓] Go.wp_at_zero Go.wp_at_succ
attribute [local go_sem ↓] load_entry store_entry build_entry sub_str
attribute [local go_sem] Go.RowKit.frozen?_alloc_cells frozen_out

theorem all_known {ps : List PartD} {hs : List HeldD} (h : hs.Perm (ps.map entR)) (hn : (ps.map PartD.name).Pairwise (· ≠ ·)) (ha : ∀ q ∈ ps, q.at_ = 0 ∧ q.is = false) : missK hs [] ps = [] := by
  unfold missK
  rw [List.filter_eq_nil_iff.2 (fun q hq => ?_)]
  · rfl
  · rw [val_ent h hn hq [] (ha q hq).1 (ha q hq).2]; simp

set_option maxRecDepth 100000 in
set_option maxHeartbeats 8000000 in
theorem relation_walk (hex : ∀ w, Tab w → Calls Tryz.prog 6 #[] w fun e w' => e = .returned (.bool true) ∧ Ext w w')
    (n : Int) (w : World) (ht : Tab w) (h1 : 0 ≤ n) (h2 : n ≤ 255) :
    Calls Tryz.prog 5 #[.int .u8 n] w fun e w' => e = .returned (.bool true) ∧ Ext w w' := by
  have HEX := Lib.hid (hex w ht)
  obtain ⟨k, hk, hk1, hk2⟩ : ∃ k : Nat, 1 + n % 60 = (k : Int) ∧ 1 ≤ k ∧ k ≤ 60 := ⟨(1 + n % 60).toNat, by omega, by omega, by omega⟩
  have HT := Lib.hid ht
  have HK := Lib.hid hk
  have HAU := Lib.hid (fun (w' : World) (h : Tab w') => AuditK_R k w' hk1 (by omega) h)
  have hl0 := partsR_pos2 k
  have hl1 : (partsR k (4 * k + 1)).length ≤ 241 := by have := partsR_len k (4 * k + 1); omega
  have HPN := Lib.hid (parts_names k (4 * k + 1))
  have HPM := Lib.hid (fun (q : PartD) (hq : q ∈ partsR k (4 * k + 1)) => (show ∃ m, m < 4 * k + 1 ∧ q.name = nameOf m ∧ entR q = ⟨nameOf m, [twelve (m : Int)], []⟩ by
    obtain ⟨m, hm, rfl⟩ := parts_mem hq
    exact ⟨m, hm, rfl, by simp only [entR, numOf, vOf_name]⟩))
  have HAT := Lib.hid (fun (q : PartD) (hq : q ∈ partsR k (4 * k + 1)) => (show q.at_ = 0 ∧ q.is = false by obtain ⟨m, _, rfl⟩ := parts_mem hq; exact ⟨rfl, rfl⟩))
  have HTW := Lib.hid (fun (q : PartD) (hq : q ∈ partsR k (4 * k + 1)) => parts_tw hq)
  have HSH := Lib.hid (fun (q : PartD) (hq : q ∈ partsR k (4 * k + 1)) => parts_short (by omega) hq)
  have HEO := Lib.hid (fun (q : PartD) (hq : q ∈ partsR k (4 * k + 1)) => entR_ok (by omega) hq)
  have HST := Lib.hid (fun (hs : List HeldD) (h : hs.Perm ((partsR k (4 * k + 1)).map entR)) => sum_true hk1 hk2 h)
  have HTT := Lib.hid (show (tot k k).natAbs ≤ 1000000000 by have := tot_bd (n := (k : Int)) (by omega) k (by omega); omega)
  clear hex ht hk
  generalize partsR k (4 * k + 1) = ps at *
  generalize tot k k = TT at *
  go_enter Tryz.func5, Tryz.ntmps5
  go_wp2_with fail
  refine HEX.out.mono ?_
  rintro e w1 ⟨rfl, hE1⟩
  go_upto_region 4 with fail
  go_wp2_with fail
  rw [HK.out]
  refine (HAU.out w1 (HT.out.ext hE1)).mono ?_
  rintro e w2 ⟨av, a1, a2, a3, a4, rfl, hP, hQ, hE2⟩
  obtain ⟨A0, n0, rfl⟩ := hP.shape
  obtain ⟨s1, A1, n1, c1, s2, A2, n2, c2, rfl, rfl, rfl, rfl⟩ := hQ.form
  go_upto_region 5 with fail
  obtain ⟨w3, hw3⟩ : ∃ w3 : World, w3 = w2.alloc (.cells #[.slice A0 ps.length n0, .bool s1, .slice A1 n1 c1, .bool s2, .slice A2 n2 c2] 41) := ⟨_, rfl⟩
  rw [← hw3]
  have hE3 : Ext w w3 := by rw [hw3]; exact (hE1.trans hE2).alloc _
  have hE23 : Ext w2 w3 := by rw [hw3]; exact (Ext.refl _).alloc _
  have hBa : Blk w3 w2.heap.size 41 #[.slice A0 ps.length n0, .bool s1, .slice A1 n1 c1, .bool s2, .slice A2 n2 c2] := by rw [hw3]; exact Blk.newAt _ _ _ rfl
  have HBA := Lib.hid hBa
  have HP := Lib.hid (hP.ext hE23)
  have HQ := Lib.hid (hQ.ext hE23)
  have HE3 := Lib.hid hE3
  clear hw3 hBa hE1 hE2 hE23 hP hQ HAU HEX HT hE3
  generalize w2.heap.size = ga at *
  go_upto_region 6 with fail
  obtain ⟨w4, hw4⟩ : ∃ w4 : World, w4 = w3.alloc (.cells #[.slice none 0 0] 30) := ⟨_, rfl⟩
  rw [← hw4]
  have hE34 : Ext w3 w4 := by rw [hw4]; exact (Ext.refl _).alloc _
  have hBs : Blk w4 w3.heap.size 30 #[.slice none 0 0] := by rw [hw4]; exact Blk.newAt _ _ _ rfl
  have hS4 : IsShelf w4 (.slice none 0 0) [] := ⟨[], RowsOf.nil _ _ _, trivial⟩
  have HBS := Lib.hid hBs
  have HS4 := Lib.hid hS4
  have HE34 := Lib.hid hE34
  clear hw4 hBs hS4 hE34
  obtain ⟨gs, hgs⟩ : ∃ gs : Nat, w3.heap.size = gs := ⟨_, rfl⟩
  have HGS := Lib.hid hgs
  rw [hgs] at HBS ⊢
  clear hgs
  have hl0' : ¬ (ps.length : Int) = 0 := by omega
  go_wp2_with fail
  go_loopw [7] (fun t wr => ∃ (i : Nat) (v : Value) (hs : List HeldD), t = .int .i64 (i : Int) ∧ i ≤ ps.length ∧ Hid (hs.Perm ((ps.take i).map entR)) ∧ Hid (IsShelf wr v hs) ∧ Hid (Blk wr gs 30 #[v]) ∧ Hid (Ext w3 wr)) (fun t _ => ps.length - (intOf t).toNat)
  case atStart => exact ⟨0, _, [], rfl, Nat.zero_le _, (show Hid _ from Lib.hid (List.Perm.refl _)), HS4, HBS, HE34⟩
  case round =>
    obtain ⟨i, v, hs, rfl, hi, hp, hS, hB, hEr⟩ := hrel
    have HBa := Lib.hid (HBA.out.ext hEr.out)
    obtain ⟨As, cs, rfl⟩ := hS.out.shape
    by_cases hlt : i < ps.length
    · have z4 := HBa.out.five
      obtain ⟨b, o, x1, X1, e1, f1, x2, X2, e2, f2, x3, X3, e3, f3, rfl, hbw, hpc, hcell⟩ := HP.out.at9 i hlt
      obtain ⟨m, hm, hnm, hent⟩ := HPM.out _ (List.getElem_mem hlt)
      have hPS := Lib.hid (show (ps.take (i + 1)).map entR = (ps.take i).map entR ++ [⟨nameOf m, [twelve (m : Int)], []⟩] by
        rw [List.take_succ_eq_append_getElem hlt, List.map_append]
        simp only [List.map_cons, List.map_nil, hent])
      have hne : ∀ h ∈ hs, h.name ≠ nameOf m := by
        intro h hh e
        have h2 := hp.out.mem_iff.1 hh
        obtain ⟨q, hq, rfl⟩ := List.mem_map.1 h2
        have h3 := HPN.out
        rw [← List.take_append_drop (i + 1) ps, List.take_succ_eq_append_getElem hlt, List.map_append, List.map_append, List.pairwise_append, List.pairwise_append] at h3
        refine h3.1.2.2 q.name (List.mem_map_of_mem hq) (ps[i]).name (by simp) ?_
        rw [hnm]
        exact e
      rw [hnm] at hcell
      generalize ps[i] = p at *
      clear hpc hent hnm
      have HNE := Lib.hid hne
      have hlen : hs.length ≤ 100000 := by
        have := hp.out.length_eq
        simp at this
        omega
      have HKK := Lib.hid (fun (w' : World) (q : Ext wr w') => And.intro ((HBa.out.ext q).cell 0) (hcell w' (hEr.out.trans q)).1)
      have HKS := Lib.hid (fun (w' : World) (q : Ext wr w') => And.intro ((hB.out.ext q).cell 0) (And.intro ((hB.out.ext q).frozen 0) (hB.out.ext q).lt))
      have HSX := Lib.hid (fun (w' : World) (q : Ext wr w') => hS.out.ext q)
      clear hne hcell
      have HBW := Lib.hid hbw
      clear hbw
      have hm32 : m < 4294967296 := by omega
      have hln : ¬ ((nameOf m).length : Int) < 3 := by
        obtain ⟨bb, rr, hd, _⟩ := decDigits_head m
        unfold nameOf
        rw [hd]
        simp only [List.length_cons]
        omega
      have hln2 : ((nameOf m).length : Int) ≤ 23 := by have := (nameOf_len m hm32).2; omega
      have hst := fun w' => run_tail_name m w' hm32
      have k0 := HKK.out wr (Ext.refl _)
      have hia : ¬ (i : Int) < 0 := by omega
      have hib : (i : Int) < (ps.length : Int) := by omega
      clear z4
      go_upto_region 11 with fail
      go_wp2_with fail
      refine (Parse1_any m wr hm32).mono ?_
      rintro e w5 ⟨s4, A4, n4, c4, rfl, hm5, hE5⟩
      go_upto_region 12 with fail
      obtain ⟨w6, hw6⟩ : ∃ w6 : World, w6 = w5.alloc (.cells #[.bool s4, .slice A4 n4 c4] 37) := ⟨_, rfl⟩
      rw [← hw6]
      have hE6 : Ext wr w6 := by rw [hw6]; exact hE5.alloc _
      have hB6 : Blk w6 w5.heap.size 37 #[.bool s4, .slice A4 n4 c4] := by rw [hw6]; exact Blk.newAt _ _ _ rfl
      have hm6 : IsInt w6 (.bool s4) (.slice A4 n4 c4) (m : Int) := by rw [hw6]; exact hm5.alloc _
      have z6 := hB6.two
      clear hw6 hm5 k0 hst
      go_wp2_with fail
      refine (Hurwitz_any _ _ (m : Int) w6 (by omega) (by omega) hm6).mono ?_
      rintro e w7 ⟨s5, A5, n5, c5, rfl, hm7, hE7⟩
      clear z6 hB6 hm6
      obtain ⟨tz, htz⟩ : ∃ tz : Int, twelve (m : Int) = tz := ⟨_, rfl⟩
      rw [htz] at hm7 hPS
      clear htz
      go_upto_region 13 with fail
      obtain ⟨w8, hw8⟩ : ∃ w8 : World, w8 = w7.alloc (.cells #[.bool s5, .slice A5 n5 c5] 37) := ⟨_, rfl⟩
      rw [← hw8]
      have hE8 : Ext wr w8 := by rw [hw8]; exact (hE6.trans hE7).alloc _
      have hB8 : Blk w8 w7.heap.size 37 #[.bool s5, .slice A5 n5 c5] := by rw [hw8]; exact Blk.newAt _ _ _ rfl
      have hm8 : IsInt w8 (.bool s5) (.slice A5 n5 c5) tz := by rw [hw8]; exact hm7.alloc _
      clear hw8 hm7 hE7 hE6
      generalize w7.heap.size = gh at *
      have z8 := hB8.two
      go_upto_region 15 with fail
      have HM8 := Lib.hid hm8
      have HAD := Lib.hid (fun (w' : World) (g : Nat) (q : Ext w8 w') (hb : Blk w' g 37 #[.bool s5, .slice A5 n5 c5]) => AddM_any _ (entry2 (nameOf m) (some ⟨g, 0, none⟩) 1 1) 0 1 0 hs ⟨nameOf m, [tz], []⟩ w' hlen HNE.out (HSX.out w' (hE8.trans q)) (entry2_is hb (HM8.out.ext q)))
      have HRW := Lib.hid (fun (w' : World) (q : Ext w8 w') => hE8.trans q)
      have rb := fun w' A n c => run_build_two w' (nameOf m) A n c
      have k8 := HKK.out w8 hE8
      have g8 := HKS.out w8 hE8
      have b8 : b < w8.heap.size := by have q1 := hEr.out.size'; have q2 := hE8.size'; have q3 := HBW.out; omega
      have a8 : ga < w8.heap.size := (HBa.out.ext hE8).lt
      have h8 := hB8.lt
      clear hm8 hE5 hB8 hE8
      go_region_law (first | (go_simp; go_at_call 11; (with_reducible refine (HAD.out _ w8.heap.size ?q1 ?q2).mono ?_); (case q1 => (repeat (first | with_reducible assumption | with_reducible exact Ext.refl _ | with_reducible refine Ext.drew ?_ | with_reducible refine Ext.drewN ?_ _ | with_reducible refine Ext.alloc ?_ _ | with_reducible refine Ext.set2 ?_ (by omega) _ _ | with_reducible refine Ext.setCell ?_ (by first | omega | (simp; done) | (simp; omega)) _ | with_reducible refine Ext.trans ?_ (by with_reducible assumption)))); (case q2 => (repeat (first | with_reducible assumption | with_reducible exact Blk.newAt _ _ _ (by first | rfl | (simp; done) | (simp; omega)) | with_reducible refine Blk.alloc ?_ _ | with_reducible refine Blk.set2 (x := .bool false) (y := .slice none 0 0) ?_ _ _ | with_reducible refine Blk.far2 ?_ (by omega) _ _ | with_reducible refine Blk.drew ?_ | with_reducible refine Blk.ext ?_ (by with_reducible assumption)))); rintro e w9 ⟨v9, kk, rfl, hkk, hS9, hE9⟩; obtain ⟨ht, hht⟩ : ∃ x : List HeldD, x = hs.take kk ++ ⟨nameOf m, [tz], []⟩ :: hs.drop kk := ⟨_, rfl⟩; rw [← hht] at hS9; have HHT := Lib.hid hht; clear hht; obtain ⟨At, ct, rfl⟩ := hS9.shape; have hE09 := HRW.out w9 (by (repeat (first | with_reducible assumption | with_reducible exact Ext.refl _ | with_reducible refine Ext.drew ?_ | with_reducible refine Ext.drewN ?_ _ | with_reducible refine Ext.alloc ?_ _ | with_reducible refine Ext.set2 ?_ (by omega) _ _ | with_reducible refine Ext.setCell ?_ (by first | omega | (simp; done) | (simp; omega)) _ | with_reducible refine Ext.trans ?_ (by with_reducible assumption)))); have f9 := HKS.out w9 hE09; have k9 := HKK.out w9 hE09))
      all_goals
        have hPm := Lib.hid (show ht.Perm ((ps.take (i + 1)).map entR) by rw [HHT.out, hPS.out]; exact (perm_insert kk _).trans (hp.out.append_right _))
        obtain ⟨u9, hu9⟩ : ∃ u : Value, u = .slice At ht.length ct := ⟨_, rfl⟩
        have hB9 := hB.out.ext hE09
        have hgs : w3.heap.size ≤ gs := by have := HGS.out; omega
        have hS10 : IsShelf (w9.setCell ⟨gs, 0, none⟩ u9) u9 ht := by
          rw [hu9]
          exact hS9.keep (ts := [82, 37, 123, 3]) ((KeepT.refl _ _).set (p := ⟨gs, 0, none⟩) hB9.type (by decide) _) (fun _ h => h)
        have hB10 : Blk (w9.setCell ⟨gs, 0, none⟩ u9) gs 30 #[u9] := hB9.set_ 0 u9
        have hE10 : Ext w3 (w9.setCell ⟨gs, 0, none⟩ u9) := (hEr.out.trans hE09).setCell hgs _
        have HF := Lib.hid (And.intro hS10 (And.intro hB10 hE10))
        rw [hu9] at HF
        clear hS10 hB10 hE10 hu9 hB9 hgs
        go_wp2
        exact ⟨⟨i + 1, .slice At ht.length ct, ht, by go_num, by omega, hPm, Lib.hid HF.out.1, Lib.hid HF.out.2.1, Lib.hid HF.out.2.2⟩, by (simp [intOf] <;> omega)⟩
    · obtain rfl : i = ps.length := by omega
      rw [List.take_length] at hp
      have hhl : hs.length ≤ 100000 := by
        have := hp.out.length_eq
        simp at this
        omega
      have HOKH := Lib.hid (fun (h : HeldD) (hh : h ∈ hs) => (show HeldOk h by obtain ⟨q, hq, rfl⟩ := List.mem_map.1 (hp.out.mem_iff.1 hh); exact HEO.out q hq))
      have HSV := Lib.hid (HST.out hs hp.out)
      have HMS := Lib.hid (show missK hs [] ps = [] from all_known hp.out HPN.out HAT.out)
      have HP5 := Lib.hid (HP.out.ext hEr.out)
      have HQ5 := Lib.hid (HQ.out.ext hEr.out)
      have HEW := Lib.hid (HE3.out.trans hEr.out)
      have HSU := Lib.hid ((SumK_any _ _ _ _ _ _ _ ps _ hs [] wr (by omega) hhl (by simp) HOKH.out HTW.out HSH.out HP5.out HQ5.out hS.out (IsNums.nil _)).mono (R' := fun e w' => ∃ (s : Bool) (A : Option Addr) (n c : Nat) (s' : Bool) (A' : Option Addr) (n' c' : Nat) (Am : Option Addr) (cm : Nat), e = .returned (.tuple #[.agg #[.bool s, .slice A n c, .bool s', .slice A' n' c'], .slice Am 0 cm]) ∧ IsRat w' (.bool s) (.slice A n c) (.bool s') (.slice A' n' c') ((TT : Int) : Rat) ∧ Ext wr w')
        fun e w' ⟨a, b, c, d, m, he, hq, hm, hE⟩ => by
          rw [HMS.out] at hm
          rw [HSV.out] at hq
          obtain ⟨s, A, n, c, s', A', n', c', rfl, rfl, rfl, rfl⟩ := hq.form
          obtain ⟨Am, cm, rfl⟩ := hm.shape
          exact ⟨_, _, _, _, _, _, _, _, _, _, he, hq, hE⟩)
      have htt := HTT.out
      have HSM := Lib.hid (fun (w' : World) (b1 v1 b2 v2 b3 v3 b4 v4 : Value) (h : IsRat w' b1 v1 b2 v2 ((TT : Int) : Rat)) (h2 : IsRat w' b3 v3 b4 v4 ((TT : Int) : Rat)) => same_one h h2 rfl (by rw [Rat.num_intCast]; omega) (by rw [Rat.den_intCast]; omega))
      have HHO := Lib.hid (fun (W : World) (q : Ext wr W) => (HoldsK_any _ _ _ _ _ _ _ ps _ hs [] W (by omega) hhl (by simp) HOKH.out HTW.out HSH.out (by rw [Rat.num_intCast]; exact htt) (by rw [Rat.den_intCast]; omega) (HP5.out.ext q) (HQ5.out.ext q) (hS.out.ext q) (IsNums.nil _)).mono (R' := fun e w' => e = .returned (.bool true) ∧ Ext W w')
        fun e w' ⟨he, hE⟩ => ⟨by
          rw [he]
          unfold holdsOf
          rw [HMS.out, HSV.out]
          simp [sortedOf], hE⟩)
      have z4 := HBa.out.five
      have z5 := hB.out.cell 0
      clear htt
      go_wp2_with fail
      refine HSU.out.mono ?_
      rintro e w9 ⟨s4, A4, n4, c4, s5, A5, n5, c5, Av, cv, rfl, hq9, hE9⟩
      go_upto_region 17 with fail
      obtain ⟨wa, hwa⟩ : ∃ wa : World, wa = w9.alloc (.cells #[.bool s4, .slice A4 n4 c4, .bool s5, .slice A5 n5 c5] 39) := ⟨_, rfl⟩
      rw [← hwa]
      have hEa : Ext wr wa := by rw [hwa]; exact hE9.alloc _
      have hE9a : Ext w9 wa := by rw [hwa]; exact (Ext.refl _).alloc _
      have hBv : Blk wa w9.heap.size 39 #[.bool s4, .slice A4 n4 c4, .bool s5, .slice A5 n5 c5] := by rw [hwa]; exact Blk.newAt _ _ _ rfl
      have HQV := Lib.hid (hq9.ext hE9a)
      have hBa2 := HBa.out.ext hEa
      have hB2 := hB.out.ext hEa
      have y4 := hBv.four
      have y5 := hBa2.five
      have y6 := hB2.cell 0
      clear hwa hq9 hE9 hE9a z4 z5
      go_wp2_with fail
      refine (HSM.out wa _ _ _ _ _ _ _ _ HQV.out (HQ5.out.ext hEa)).mono ?_
      rintro e wb ⟨rfl, hEb⟩
      have y7 := (hBa2.ext hEb).five
      have y8 := (hB2.ext hEb).cell 0
      clear y4 y5 y6
      go_wp2_with fail
      refine (HHO.out wb (hEa.trans hEb)).mono ?_
      rintro e wc ⟨rfl, hEc⟩
      go_wp2
      go_ret
      exact ⟨by simp, HEW.out.trans ((hEa.trans hEb).trans hEc)⟩

end Go.Proofs.YtekipapkcgoieaaGreatDoor
