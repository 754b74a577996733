/-
  R38.Parts.
  The examples' values.
-/
import Derived.Test.YtekipapkcgoieaaGreatDoorJ17
set_option linter.unusedVariables false
set_option linter.unusedSimpArgs false

/- R38.Parts. -/
namespace Go.Proofs.YtekipapkcgoieaaGreatDoor
open Go.RowKit
attribute [local go_sem ↓] Go.wp_at_zero Go.wp_at_succ
attribute [local go_sem ↓] sub_str

theorem IsNums.nil (w : World) : IsNums w (.slice none 0 0) [] := RowsOf.nil _ _ _
theorem perm_insert {hs : List HeldD} (k : Nat) (x : HeldD) : (hs.take k ++ x :: hs.drop k).Perm (hs ++ [x]) := by
  refine (List.perm_middle).trans ?_
  rw [List.take_append_drop]
  exact (List.perm_append_singleton x hs).symm

set_option maxRecDepth 100000 in
set_option maxHeartbeats 4000000 in
theorem Parts38_any (n : Nat) (w : World) (h0 : 1 ≤ n) (h1 : n ≤ 200) :
    Calls Tryz.prog 18 #[.int .i64 (n : Int)] w fun e w' => ∃ (v : Value) (hs : List HeldD), e = .returned (.agg #[v]) ∧ hs.Perm ((partsR n (4 * n + 1)).map entR) ∧ IsShelf w' v hs ∧ Ext w w' := by
  have HAUD := Lib.hid (fun w' => Audit38_pos n w' h0 (by omega))
  have hll : (partsR n (4 * n + 1)).length ≤ 801 := by have := partsR_len n (4 * n + 1); omega
  have HPM := Lib.hid (fun (p : PartD) (hp : p ∈ partsR n (4 * n + 1)) => parts_mem hp)
  have HPN := Lib.hid (parts_names n (4 * n + 1))
  go_enter Tryz.func18, Tryz.ntmps18
  go_upto_region 2 with fail
  obtain ⟨W, hW⟩ : ∃ W : World, W = ((w.alloc (.cells #[.slice none 0 0] 30)).alloc (.cells #[.slice none 0 0] 30)).alloc (.cells #[.slice none 0 0, .bool false, .slice none 0 0, .bool false, .slice none 0 0] 41) := ⟨_, rfl⟩
  rw [← hW]
  have hE : Ext w W := by rw [hW]; exact (((Ext.refl w).alloc _).alloc _).alloc _
  have hB2 : Blk W w.heap.size 30 #[.slice none 0 0] := by rw [hW]; exact ((Blk.newAt _ _ _ (by simp)).alloc _).alloc _
  have hB3 : Blk W (w.heap.size + 1) 30 #[.slice none 0 0] := by rw [hW]; exact (Blk.newAt _ _ _ (by simp)).alloc _
  have hB4 : Blk W (w.heap.size + 1 + 1) 41 #[.slice none 0 0, .bool false, .slice none 0 0, .bool false, .slice none 0 0] := by rw [hW]; exact Blk.newAt _ _ _ (by simp)
  clear hW
  go_wp2_with fail
  refine (HAUD.out W).mono ?_
  rintro e w1 ⟨av, a, b, c, d, rfl, hP, hQ, hE1⟩
  obtain ⟨A0, n0, rfl⟩ := hP.shape
  obtain ⟨s1, A1, n1, c1, s2, A2, n2, c2, rfl, rfl, rfl, rfl⟩ := hQ.form
  have y4 := (hB4.ext hE1).five
  obtain ⟨ps, hps⟩ : ∃ ps, ps = partsR n (4 * n + 1) := ⟨_, rfl⟩
  rw [← hps] at hP hll HPM HPN ⊢
  have HPSQ := Lib.hid hps
  clear hps HAUD
  go_upto_region 3 with fail
  obtain ⟨w2, hw2⟩ : ∃ w2 : World, w2 = ((((w1.setCell ⟨w.heap.size + 1 + 1, 0, none⟩ (.slice A0 ps.length n0)).setCell ⟨w.heap.size + 1 + 1, 1, none⟩ (.bool s1)).setCell ⟨w.heap.size + 1 + 1, 2, none⟩ (.slice A1 n1 c1)).setCell ⟨w.heap.size + 1 + 1, 3, none⟩ (.bool s2)).setCell ⟨w.heap.size + 1 + 1, 4, none⟩ (.slice A2 n2 c2) := ⟨_, rfl⟩
  rw [← hw2]
  have hA4 := hB4.ext hE1
  have hk2 : KeepT [45, 123] w1 w2 := by rw [hw2]; exact (KeepT.refl _ _).set5 hA4.type (by decide) _ _ _ _ _
  have hP2 := Lib.hid (hP.keep hk2)
  have hA2 : Blk w2 (w.heap.size + 1 + 1) 41 #[.slice A0 ps.length n0, .bool s1, .slice A1 n1 c1, .bool s2, .slice A2 n2 c2] := by
    rw [hw2]; exact ((((hA4.set_ 0 (.slice A0 ps.length n0)).set_ 1 (.bool s1)).set_ 2 (.slice A1 n1 c1)).set_ 3 (.bool s2)).set_ 4 (.slice A2 n2 c2)
  have far5 : ∀ {k0 : Nat} {t : TypeId} {cs : Array Value}, k0 ≠ w.heap.size + 1 + 1 → Blk w1 k0 t cs → Blk w2 k0 t cs := by
    intro k0 t cs hne hb
    rw [hw2]
    exact ((((hb.far (p := ⟨w.heap.size + 1 + 1, 0, none⟩) hne _).far (p := ⟨w.heap.size + 1 + 1, 1, none⟩) hne _).far (p := ⟨w.heap.size + 1 + 1, 2, none⟩) hne _).far (p := ⟨w.heap.size + 1 + 1, 3, none⟩) hne _).far (p := ⟨w.heap.size + 1 + 1, 4, none⟩) hne _
  have hA3 := far5 (by omega) (hB3.ext hE1)
  have hA0 := far5 (by omega) (hB2.ext hE1)
  have hE2 : Ext w w2 := by rw [hw2]; exact (hE.trans hE1).set5 (by omega) _ _ _ _ _
  have hS2 : IsShelf w2 (.slice none 0 0) [] := ⟨[], RowsOf.nil _ _ _, trivial⟩
  have HA2 := Lib.hid hA2
  have HA3 := Lib.hid hA3
  have HA0 := Lib.hid hA0
  have HS2 := Lib.hid hS2
  clear hw2 y4 hA4 hk2 hP hQ hA2 hA3 hA0 hS2 far5 hB2 hB3 hB4
  obtain ⟨ls, hR, hA⟩ := hP2.out
  have hlp := hA.length
  have HR := Lib.hid hR
  have HA := Lib.hid hA
  clear hR hA hP2
  go_wp2_with fail
  go_loopw [5] (fun t wr => ∃ (i : Nat) (v : Value) (hs : List HeldD), t = .int .i64 (i : Int) ∧ i ≤ ps.length ∧ Hid (hs.Perm ((ps.take i).map entR)) ∧ Hid (IsShelf wr v hs) ∧ Hid (Blk wr (w.heap.size + 1) 30 #[v]) ∧ Hid (Blk wr (w.heap.size + 1 + 1) 41 #[.slice A0 ps.length n0, .bool s1, .slice A1 n1 c1, .bool s2, .slice A2 n2 c2]) ∧ Hid (Blk wr w.heap.size 30 #[.slice none 0 0]) ∧ Hid (KeepT [45] w2 wr) ∧ Ext w wr) (fun t _ => ps.length - (intOf t).toNat)
  case atStart => exact ⟨0, _, [], rfl, Nat.zero_le _, (show Hid _ from Lib.hid (List.Perm.refl _)), HS2, HA3, HA2, HA0, (show Hid _ from Lib.hid (KeepT.refl _ _)), hE2⟩
  case round =>
    obtain ⟨i, v, hs, rfl, hi, hp, hS, hBs, hBa, hBr, hK, hEr⟩ := hrel
    have z4 := hBa.out.five
    by_cases hlt : i < ps.length
    · have hil : i < ls.length := by omega
      obtain ⟨b, o, rfl, hb, hrow⟩ := HR.out.row i hil
      have hget := HA.out.get i _ _ (List.getElem?_eq_getElem hil) (List.getElem?_eq_getElem hlt)
      obtain ⟨m, hm, hpm⟩ := HPM.out _ (List.getElem_mem hlt)
      have hPS := Lib.hid (show (ps.take (i + 1)).map entR = (ps.take i).map entR ++ [⟨nameOf m, [twelve (m : Int)], []⟩] by
        rw [List.take_succ_eq_append_getElem hlt, List.map_append, hpm]
        simp only [List.map_cons, List.map_nil, entR, numOf, vOf_name])
      have hne : ∀ h ∈ hs, h.name ≠ nameOf m := by
        intro h hh e
        have h2 := hp.out.mem_iff.1 hh
        obtain ⟨q, hq, rfl⟩ := List.mem_map.1 h2
        have h3 := HPN.out
        rw [← List.take_append_drop (i + 1) ps, List.take_succ_eq_append_getElem hlt, List.map_append, List.map_append, List.pairwise_append, List.pairwise_append] at h3
        refine h3.1.2.2 q.name (List.mem_map_of_mem hq) (ps[i]).name (by simp) ?_
        rw [hpm]
        exact e
      generalize ps[i] = p at *
      obtain ⟨t1, v1, t2, v2, t3, v3, hlk, -, -⟩ := hget
      have hnm : ∀ w', KeepT [45] w2 w' → w'.cell? ⟨b, o + i * 9, none⟩ = some (.string ⟨(nameOf m).toArray⟩) := by
        intro w' hw
        have hr := hrow w' hw
        rw [hlk] at hr
        have := hr 0 _ rfl
        rw [hpm] at this
        exact this
      have HNM := Lib.hid hnm
      have HNE := Lib.hid hne
      have c0 := hnm wr hK.out
      have hsl := fun w' => run_tail_name m w' (by omega)
      have hbt := Lib.hid hb
      clear hnm hrow hlk hne hpm hb
      go_wp2_with fail
      refine (Parse1_any m wr (by omega)).mono ?_
      rintro e w3 ⟨s4, A4, n4, c4, rfl, hm4, hE3⟩
      go_upto_region 7 with fail
      obtain ⟨w4, hw4⟩ : ∃ w4 : World, w4 = w3.alloc (.cells #[.bool s4, .slice A4 n4 c4] 37) := ⟨_, rfl⟩
      rw [← hw4]
      have hE4 : Ext wr w4 := by rw [hw4]; exact hE3.alloc _
      have hB6 : Blk w4 w3.heap.size 37 #[.bool s4, .slice A4 n4 c4] := by rw [hw4]; exact Blk.newAt _ _ _ rfl
      have hm5 : IsInt w4 (.bool s4) (.slice A4 n4 c4) (m : Int) := by rw [hw4]; exact hm4.alloc _
      have z6 := hB6.two
      clear hw4 c0 z4 hsl hm4
      go_wp2_with fail
      refine (Low1_any _ _ (m : Int) w4 (by omega) hm5).mono ?_
      rintro e w5 ⟨rfl, hE5⟩
      clear z6 hB6
      go_upto_region 8 with fail
      have hE05 : Ext wr w5 := hE4.trans hE5
      have hwr5 := Ext.trans hEr hE05
      have HT := Lib.hid (fun w' => Twelve_any (m : Int) w' (by omega) (by omega))
      have htw := twelve_bd (n := (m : Int)) (by omega) (by omega)
      obtain ⟨tz, htz⟩ : ∃ tz : Int, twelve (m : Int) = tz := ⟨_, rfl⟩
      rw [htz] at HT htw hPS
      have HK5 := Lib.hid (fun (w' : World) (k : Ext wr w') => And.intro (HNM.out w' (hK.out.trans (KeepT.ext k))) (And.intro ((hBa.out.ext k).five) ((hBs.out.ext k).cell 0)))
      have HS5 := Lib.hid (fun (w' : World) (k : Ext wr w') => hS.out.ext k)
      have HB5 := Lib.hid (fun (w' : World) (k : Ext wr w') => And.intro ((hBs.out.ext k).frozen 0) (hBs.out.ext k).lt)
      obtain ⟨Av, cv, rfl⟩ := hS.out.shape
      have hlen : hs.length ≤ 100000 := by
        have := hp.out.length_eq
        simp at this
        omega
      have k5 := HK5.out w5 hE05
      have f5 := HB5.out w5 hE05
      clear htz hm5 hE3 hE4 hE5
      go_region_law (first | (go_simp; go_at_call 31; (with_reducible refine (HT.out _).mono ?_); rintro e w6 ⟨rfl, hE6⟩; have hE06 : Ext wr w6 := (by (repeat (first | with_reducible assumption | with_reducible exact Ext.refl _ | with_reducible refine Ext.drew ?_ | with_reducible refine Ext.drewN ?_ _ | with_reducible refine Ext.alloc ?_ _ | with_reducible refine Ext.set2 ?_ (by omega) _ _ | with_reducible refine Ext.setCell ?_ (by first | omega | (simp; done) | (simp; omega)) _ | with_reducible refine Ext.trans ?_ (by with_reducible assumption)))); have k6 := HK5.out w6 hE06; have f6 := HB5.out w6 hE06) | (go_simp; go_at_call 32; (with_reducible refine (held38_any _ _ (nameOf m) tz [] 1 hs _ hlen HNE.out (by omega) (by omega) (HS5.out _ (by (repeat (first | with_reducible assumption | with_reducible exact Ext.refl _ | with_reducible refine Ext.drew ?_ | with_reducible refine Ext.drewN ?_ _ | with_reducible refine Ext.alloc ?_ _ | with_reducible refine Ext.set2 ?_ (by omega) _ _ | with_reducible refine Ext.setCell ?_ (by first | omega | (simp; done) | (simp; omega)) _ | with_reducible refine Ext.trans ?_ (by with_reducible assumption))))) (IsNums.nil _)).mono ?_); rintro e w7 ⟨v7, kk, rfl, hkk, hS7, hE7⟩; obtain ⟨hs7, hh7⟩ : ∃ x : List HeldD, x = hs.take kk ++ ⟨nameOf m, [tz], []⟩ :: hs.drop kk := ⟨_, rfl⟩; rw [← hh7] at hS7; obtain ⟨A7, c7, rfl⟩ := hS7.shape; have HH7 := Lib.hid hh7; clear hh7; have hE07 : Ext wr w7 := (by (repeat (first | with_reducible assumption | with_reducible exact Ext.refl _ | with_reducible refine Ext.drew ?_ | with_reducible refine Ext.drewN ?_ _ | with_reducible refine Ext.alloc ?_ _ | with_reducible refine Ext.set2 ?_ (by omega) _ _ | with_reducible refine Ext.setCell ?_ (by first | omega | (simp; done) | (simp; omega)) _ | with_reducible refine Ext.trans ?_ (by with_reducible assumption)))); have f7 := HB5.out w7 hE07; have k7 := HK5.out w7 hE07))
      all_goals
        have hPm := Lib.hid (show hs7.Perm ((ps.take (i + 1)).map entR) by rw [HH7.out, hPS.out]; exact (perm_insert kk _).trans (hp.out.append_right _))
        obtain ⟨u7, hu7⟩ : ∃ u : Value, u = .slice A7 hs7.length c7 := ⟨_, rfl⟩
        have hBs7 := hBs.out.ext hE07
        have hS8 : IsShelf (w7.setCell ⟨w.heap.size + 1, 0, none⟩ u7) u7 hs7 := by
          rw [hu7]
          exact hS7.keep (ts := [82, 37, 123, 3]) ((KeepT.refl _ _).set (p := ⟨w.heap.size + 1, 0, none⟩) hBs7.type (by decide) _) (fun _ h => h)
        have hBs8 : Blk (w7.setCell ⟨w.heap.size + 1, 0, none⟩ u7) (w.heap.size + 1) 30 #[u7] := hBs7.set_ 0 u7
        have hBa8 := (hBa.out.ext hE07).far (p := ⟨w.heap.size + 1, 0, none⟩) (by show w.heap.size + 1 + 1 ≠ w.heap.size + 1; omega) u7
        have hBr8 := (hBr.out.ext hE07).far (p := ⟨w.heap.size + 1, 0, none⟩) (by show w.heap.size ≠ w.heap.size + 1; omega) u7
        have hK8 : KeepT [45] w2 (w7.setCell ⟨w.heap.size + 1, 0, none⟩ u7) := (hK.out.trans (KeepT.ext hE07)).set (p := ⟨w.heap.size + 1, 0, none⟩) hBs7.type (by decide) _
        have hE8 : Ext w (w7.setCell ⟨w.heap.size + 1, 0, none⟩ u7) := (hEr.trans hE07).setCell (by show w.heap.size ≤ w.heap.size + 1; omega) _
        have HF := Lib.hid (And.intro hS8 (And.intro hBs8 (And.intro hBa8 (And.intro hBr8 (And.intro hK8 hE8)))))
        rw [hu7] at HF
        clear hS8 hBs8 hBa8 hBr8 hK8 hE8 hu7 hBs7
        go_wp2
        exact ⟨⟨i + 1, .slice A7 hs7.length c7, hs7, by go_num, by omega, hPm, Lib.hid HF.out.1, Lib.hid HF.out.2.1, Lib.hid HF.out.2.2.1, Lib.hid HF.out.2.2.2.1, Lib.hid HF.out.2.2.2.2.1, HF.out.2.2.2.2.2⟩, by (simp [intOf] <;> omega)⟩
    · obtain rfl : i = ps.length := by omega
      rw [List.take_length] at hp
      obtain ⟨Av, cv, rfl⟩ := hS.out.shape
      have hz := hBs.out.cell 0
      have y0 := hBr.out.cell 0
      have y1 := hBr.out.frozen 0
      have y2 := hBr.out.lt
      have hS8 := Lib.hid (hS.out.keep (ts := [82, 37, 123, 3]) ((KeepT.refl _ _).set (p := ⟨w.heap.size, 0, none⟩) hBr.out.type (by decide) (.slice Av hs.length cv)) (fun _ h => h))
      go_wp2
      refine bodyPost_ret (v := .agg #[.slice Av hs.length cv]) (by simp [results, Tryz.results18, go_sem, y0, y2]) rfl ?_
      exact ⟨_, hs, rfl, by rw [← HPSQ.out]; exact hp.out, hS8.out, hEr.setCell (Nat.le_refl _) _⟩

end Go.Proofs.YtekipapkcgoieaaGreatDoor

/- The examples' values. -/
namespace Go.Proofs.YtekipapkcgoieaaGreatDoor
open Go.RowKit

theorem AuditK_R (n : Nat) (w : World) (h0 : 1 ≤ n) (h1 : n ≤ 1024) (ht : Tab w) :
    Calls Tryz.prog 17 #[.int .i64 (n : Int)] w fun e w' => ∃ (v a b c d : Value), e = .returned (.tuple #[.agg #[v, a, b, c, d], .int .i64 0]) ∧ IsParts w' v (partsR n (4 * n + 1)) ∧ IsRat w' a b c d (tot n n : Rat) ∧ Ext w w' :=
  (AuditK_pos n w h0 h1 ht).mono fun _ _ ⟨v, a, b, c, d, T, he, h2, h3, hp, hq, hE⟩ => ⟨v, a, b, c, d, he, by rw [← partsK_eq n T h2 h3]; exact hp, hq, hE⟩

/-- A part, its place out of a variable. -/
theorem IsParts.at {w : World} {A : Option Addr} {n c : Nat} {ps : List PartD} (h : IsParts w (.slice A n c) ps) (j : Nat) (hj : j < ps.length) :
    ∃ (b o : Nat) (s1 : Bool) (A1 : Option Addr) (n1 c1 : Nat) (s2 : Bool) (A2 : Option Addr) (n2 c2 : Nat), A = some ⟨b, o, none⟩ ∧ IsRat w (.bool s1) (.slice A1 n1 c1) (.bool s2) (.slice A2 n2 c2) (ps[j]).c ∧
      ∀ w', Ext w w' → w'.cell? ⟨b, o + j * 9, none⟩ = some (.string ⟨(ps[j]).name.toArray⟩) ∧ w'.cell? ⟨b, o + j * 9 + 1, none⟩ = some (.int .i64 (ps[j]).at_) ∧ w'.cell? ⟨b, o + j * 9 + 2, none⟩ = some (.bool s1) ∧ w'.cell? ⟨b, o + j * 9 + 3, none⟩ = some (.slice A1 n1 c1) ∧ w'.cell? ⟨b, o + j * 9 + 4, none⟩ = some (.bool s2) ∧ w'.cell? ⟨b, o + j * 9 + 5, none⟩ = some (.slice A2 n2 c2) ∧ w'.cell? ⟨b, o + j * 9 + 6, none⟩ = some (.bool (ps[j]).is) := by
  obtain ⟨ls, h1, h2⟩ := h
  have hj' : j < ls.length := by rw [h2.length]; exact hj
  obtain ⟨b, o, e, ht, hr⟩ := h1.row j hj'
  obtain ⟨s1, v1, s2, v2, s3, v3, hl, hq, -⟩ := h2.get j _ _ (List.getElem?_eq_getElem hj') (List.getElem?_eq_getElem hj)
  obtain ⟨s1, A1, n1, c1, s2, A2, n2, c2, rfl, rfl, rfl, rfl⟩ := hq.form
  refine ⟨b, o, s1, A1, n1, c1, s2, A2, n2, c2, e, hq, fun w' hw => ?_⟩
  have hr2 := hr w' (KeepT.ext hw)
  rw [hl] at hr2
  exact ⟨hr2 0 _ rfl, hr2 1 _ rfl, hr2 2 _ rfl, hr2 3 _ rfl, hr2 4 _ rfl, hr2 5 _ rfl, hr2 6 _ rfl⟩

theorem digit1 (m : Nat) (h : m < 10) : nameOf m = [104, 58, UInt8.ofNat (48 + m)] := by
  unfold nameOf
  rw [decDigits_step, if_pos h, Nat.mod_eq_of_lt h]; rfl
theorem name_0 : nameOf 0 = [104, 58, 48] := by rw [digit1 0 (by omega)]; rfl
theorem name_3 : nameOf 3 = [104, 58, 51] := by rw [digit1 3 (by omega)]; rfl
theorem name_4 : nameOf 4 = [104, 58, 52] := by rw [digit1 4 (by omega)]; rfl
theorem name_7 : nameOf 7 = [104, 58, 55] := by rw [digit1 7 (by omega)]; rfl
theorem name_8 : nameOf 8 = [104, 58, 56] := by rw [digit1 8 (by omega)]; rfl
def partN (m c : Nat) : PartD := ⟨nameOf m, 0, mkRat c 12, false, 0⟩
def ps1 : List PartD := [partN 0 2, partN 3 2, partN 4 1]
def ps2 : List PartD := [partN 4 2, partN 7 2, partN 8 1]
theorem parts_1 : partsR 1 5 = ps1 := by rfl
theorem parts_2 : partsR 2 9 = ps2 := by rfl
theorem tot_1 : tot 1 1 = 1 := by decide
theorem tot_2 : tot 2 2 = 4 := by decide

/-! Shelves of the entries of an audit. -/
theorem findH_perm {hs ks : List HeldD} (h : hs.Perm ks) (nm : List UInt8) : (findH hs nm).Perm (findH ks nm) := h.filter _
theorem find_one : ∀ {ps : List PartD}, ((ps.map PartD.name).Pairwise (· ≠ ·)) → ∀ {p : PartD}, p ∈ ps → findH (ps.map entR) p.name = [entR p]
  | q :: ps, h, p, hp => by
    rw [List.map_cons, List.pairwise_cons] at h
    unfold findH
    rw [List.map_cons, List.filter_cons]
    rcases List.mem_cons.1 hp with rfl | hp
    · have hn : (ps.map entR).filter (fun h => h.name == p.name) = [] := by
        rw [List.filter_eq_nil_iff]
        intro x hx
        obtain ⟨r, hr, rfl⟩ := List.mem_map.1 hx
        have := h.1 r.name (List.mem_map_of_mem hr)
        simpa [entR] using fun e => this e.symm
      rw [if_pos (by simp [entR]), hn]
    · have hne : q.name ≠ p.name := h.1 p.name (List.mem_map_of_mem hp)
      rw [if_neg (by simpa [entR] using hne)]
      exact find_one h.2 hp
theorem best_ent {ps : List PartD} {hs : List HeldD} (h : hs.Perm (ps.map entR)) (hn : (ps.map PartD.name).Pairwise (· ≠ ·)) {p : PartD} (hp : p ∈ ps) (g : List Int) : best hs p.name g = some (entR p) := by
  have h1 := findH_perm h p.name
  rw [find_one hn hp] at h1
  unfold best
  rw [List.perm_singleton.1 h1]
  rfl
theorem val_ent {ps : List PartD} {hs : List HeldD} (h : hs.Perm (ps.map entR)) (hn : (ps.map PartD.name).Pairwise (· ≠ ·)) {p : PartD} (hp : p ∈ ps) (g : List Int) (ha : p.at_ = 0) (hi : p.is = false) : partVal (best hs p.name g) p = some (p.c * ((twelve (numOf p) : Int) : Rat)) := by
  rw [best_ent h hn hp]
  unfold partVal
  simp [ha, hi, entR]
theorem held_ok {n j : Nat} (hj : j ≤ 10001) {hs : List HeldD} (h : hs.Perm ((partsR n j).map entR)) : ∀ x ∈ hs, HeldOk x := by
  intro x hx
  obtain ⟨p, hp, rfl⟩ := List.mem_map.1 (h.mem_iff.1 hx)
  exact entR_ok hj hp
/-- What the second audit's shelf gives. -/
theorem sum_2 {hs : List HeldD} (h : hs.Perm (ps2.map entR)) : sumVal hs [] ps2 = 4 ∧ missK hs [] ps2 = [] := by
  have hn : (ps2.map PartD.name).Pairwise (· ≠ ·) := by rw [← parts_2]; exact parts_names 2 9
  have e4 := val_ent h hn (p := partN 4 2) (by simp [ps2]) [] rfl rfl
  have e7 := val_ent h hn (p := partN 7 2) (by simp [ps2]) [] rfl rfl
  have e8 := val_ent h hn (p := partN 8 1) (by simp [ps2]) [] rfl rfl
  have n4 : numOf (partN 4 2) = 4 := vOf_name 4
  have n7 : numOf (partN 7 2) = 7 := vOf_name 7
  have n8 : numOf (partN 8 1) = 8 := vOf_name 8
  rw [n4] at e4
  rw [n7] at e7
  rw [n8] at e8
  refine ⟨?_, ?_⟩
  · unfold sumVal ps2
    simp only [List.foldl_cons, List.foldl_nil, e4, e7, e8]
    rw [show ((4 : Nat) : Int) = 4 from rfl, show ((7 : Nat) : Int) = 7 from rfl, show ((8 : Nat) : Int) = 8 from rfl, twelve_4, twelve_7, twelve_8]
    show (0 : Rat) + mkRat 2 12 * ((6 : Int) : Rat) + mkRat 2 12 * ((12 : Int) : Rat) + mkRat 1 12 * ((12 : Int) : Rat) = 4
    rw [mk12_mul, mk12_mul, mk12_mul, Rat.zero_add, mk12_add, mk12_add]
    decide
  · unfold missK ps2
    simp [e4, e7, e8]
theorem sum_none (g : List Int) : ∀ ps : List PartD, sumVal [] g ps = 0 ∧ missK [] g ps = ps.map PartD.name := by
  intro ps
  have hb : ∀ p : PartD, partVal (best [] p.name g) p = none := fun p => rfl
  refine ⟨?_, ?_⟩
  · unfold sumVal
    have : ∀ (l : List PartD) (s : Rat), l.foldl (fun s p => s + (partVal (best [] p.name g) p).getD 0) s = s := by
      intro l
      induction l with
      | nil => intro s; rfl
      | cons p l ih => intro s; rw [List.foldl_cons, ih, hb]; exact Rat.add_zero s
    exact this ps 0
  · unfold missK
    rw [List.filter_eq_self.2 (fun p _ => by rw [hb]; rfl)]
theorem names_2 : sortedOf (ps2.map PartD.name) = [[104, 58, 52], [104, 58, 55], [104, 58, 56]] := by
  unfold ps2 partN
  simp only [List.map_cons, List.map_nil, name_4, name_7, name_8]
  decide

end Go.Proofs.YtekipapkcgoieaaGreatDoor
