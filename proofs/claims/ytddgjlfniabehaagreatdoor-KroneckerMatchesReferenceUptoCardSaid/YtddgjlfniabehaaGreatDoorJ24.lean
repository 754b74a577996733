/-
  R38.SameAudit of two audits that read alike.
-/
import Derived.Test.YtddgjlfniabehaaGreatDoorJ21
import Derived.IntWalk
set_option linter.unusedVariables false
set_option linter.unusedSimpArgs false

/- R38.SameAudit of two audits that read alike. -/
namespace Go.Proofs.YtddgjlfniabehaaGreatDoor
open Go.RowKit
attribute [local go_sem ↓] Go.wp_at_zero Go.wp_at_succ

/-- A part, its place out of a variable: all of its cells, both readings. -/
theorem IsParts.at9v {w : World} {A : Option Addr} {n c : Nat} {ps : List PartD} (h : IsParts w (.slice A n c) ps) (j : Nat) (hj : j < ps.length) :
    ∃ (b o : Nat) (s1 : Bool) (A1 : Option Addr) (n1 c1 : Nat) (s2 : Bool) (A2 : Option Addr) (n2 c2 : Nat) (s3 : Bool) (A3 : Option Addr) (n3 c3 : Nat), A = some ⟨b, o, none⟩ ∧ IsRat w (.bool s1) (.slice A1 n1 c1) (.bool s2) (.slice A2 n2 c2) (ps[j]).c ∧ IsInt w (.bool s3) (.slice A3 n3 c3) (ps[j]).v ∧
      ∀ w', Ext w w' → w'.cell? ⟨b, o + j * 9, none⟩ = some (.string ⟨(ps[j]).name.toArray⟩) ∧ w'.cell? ⟨b, o + j * 9 + 1, none⟩ = some (.int .i64 (ps[j]).at_) ∧ w'.cell? ⟨b, o + j * 9 + 2, none⟩ = some (.bool s1) ∧ w'.cell? ⟨b, o + j * 9 + 3, none⟩ = some (.slice A1 n1 c1) ∧ w'.cell? ⟨b, o + j * 9 + 4, none⟩ = some (.bool s2) ∧ w'.cell? ⟨b, o + j * 9 + 5, none⟩ = some (.slice A2 n2 c2) ∧ w'.cell? ⟨b, o + j * 9 + 6, none⟩ = some (.bool (ps[j]).is) ∧ w'.cell? ⟨b, o + j * 9 + 7, none⟩ = some (.bool s3) ∧ w'.cell? ⟨b, o + j * 9 + 8, none⟩ = some (.slice A3 n3 c3) := by
  obtain ⟨ls, h1, h2⟩ := h
  have hj' : j < ls.length := by rw [h2.length]; exact hj
  obtain ⟨b, o, e, ht, hr⟩ := h1.row j hj'
  obtain ⟨s1, v1, s2, v2, s3, v3, hl, hq, hi⟩ := h2.get j _ _ (List.getElem?_eq_getElem hj') (List.getElem?_eq_getElem hj)
  obtain ⟨s1, A1, n1, c1, s2, A2, n2, c2, rfl, rfl, rfl, rfl⟩ := hq.form
  obtain ⟨s3, A3, n3, c3, rfl, rfl, -, -, -⟩ := hi.form
  refine ⟨b, o, s1, A1, n1, c1, s2, A2, n2, c2, s3, A3, n3, c3, e, hq, hi, fun w' hw => ?_⟩
  have hr2 := hr w' (KeepT.ext hw)
  rw [hl] at hr2
  exact ⟨hr2 0 _ rfl, hr2 1 _ rfl, hr2 2 _ rfl, hr2 3 _ rfl, hr2 4 _ rfl, hr2 5 _ rfl, hr2 6 _ rfl, hr2 7 _ rfl, hr2 8 _ rfl⟩
theorem isame_one {b1 v1 b2 v2 : Value} {x : Int} {w : World} (h1 : IsInt w b1 v1 x) (h2 : IsInt w b2 v2 x) (hn : x.natAbs ≤ 18446744073709551615) :
    Calls Tryz.prog 44 #[.agg #[b1, v1], .agg #[b2, v2]] w fun e w' => e = .returned (.bool true) ∧ Ext w w' := by
  have l1 := wordsOf_len2 (m := x.natAbs) (by omega)
  exact (iSame1_any b1 v1 b2 v2 x x w (by omega) (by omega) h1 h2).mono fun e w' ⟨he, hE⟩ => ⟨by rw [he]; simp, hE⟩

/-- Two fractions whose parts read alike, whatever they are. -/
theorem fsame_one {b1 v1 b2 v2 b3 v3 b4 v4 : Value} {x y : Int} {w : World} (h1 : IsInt w b1 v1 x) (h2 : IsInt w b2 v2 y) (h3 : IsInt w b3 v3 x) (h4 : IsInt w b4 v4 y) (hx : x.natAbs ≤ 18446744073709551615) (hy : y.natAbs ≤ 18446744073709551615) :
    Calls Tryz.prog 18 #[.agg #[b1, v1, b2, v2], .agg #[b3, v3, b4, v4]] w fun e w' => e = .returned (.bool true) ∧ Ext w w' := by
  obtain ⟨s1, A1, n1, c1, rfl, rfl, -, -, -⟩ := h1.form
  obtain ⟨s2, A2, n2, c2, rfl, rfl, -, -, -⟩ := h2.form
  obtain ⟨s3, A3, n3, c3, rfl, rfl, -, -, -⟩ := h3.form
  obtain ⟨s4, A4, n4, c4, rfl, rfl, -, -, -⟩ := h4.form
  have C1 := Lib.hid (fun w' (h : Ext w w') => isame_one (h1.ext h) (h3.ext h) hx)
  have C2 := Lib.hid (fun w' (h : Ext w w') => isame_one (h2.ext h) (h4.ext h) hy)
  clear h1 h2 h3 h4
  go_enter Tryz.func18, Tryz.ntmps18
  go_wp2_with fail
  obtain ⟨W, hW⟩ : ∃ W : World, W = (w.alloc (.cells #[.bool s1, .slice A1 n1 c1, .bool s2, .slice A2 n2 c2] 39)).alloc (.cells #[.bool s3, .slice A3 n3 c3, .bool s4, .slice A4 n4 c4] 39) := ⟨_, rfl⟩
  rw [← hW]
  have hE : Ext w W := by rw [hW]; exact ((Ext.refl w).alloc _).alloc _
  have hB1 : Blk W (w.heap.size) 39 #[.bool s1, .slice A1 n1 c1, .bool s2, .slice A2 n2 c2] := by rw [hW]; exact (Blk.newAt _ _ _ (by simp)).alloc _
  have hB2 : Blk W (w.heap.size + 1) 39 #[.bool s3, .slice A3 n3 c3, .bool s4, .slice A4 n4 c4] := by rw [hW]; exact Blk.newAt _ _ _ (by simp)
  clear hW
  have HK : Hid (∀ w', Ext W w' → Ext w w' ∧ w'.cell? ⟨w.heap.size, 0, none⟩ = some (.bool s1) ∧ w'.cell? ⟨w.heap.size, 1, none⟩ = some (.slice A1 n1 c1) ∧ w'.cell? ⟨w.heap.size, 2, none⟩ = some (.bool s2) ∧ w'.cell? ⟨w.heap.size, 3, none⟩ = some (.slice A2 n2 c2) ∧ w'.cell? ⟨w.heap.size + 1, 0, none⟩ = some (.bool s3) ∧ w'.cell? ⟨w.heap.size + 1, 1, none⟩ = some (.slice A3 n3 c3) ∧ w'.cell? ⟨w.heap.size + 1, 2, none⟩ = some (.bool s4) ∧ w'.cell? ⟨w.heap.size + 1, 3, none⟩ = some (.slice A4 n4 c4)) := fun w' h => ⟨hE.trans h, (hB1.ext h).cell 0, (hB1.ext h).cell 1, (hB1.ext h).cell 2, (hB1.ext h).cell 3, (hB2.ext h).cell 0, (hB2.ext h).cell 1, (hB2.ext h).cell 2, (hB2.ext h).cell 3⟩
  refine (C1.out _ hE).mono ?_
  rintro e w2 ⟨rfl, he2⟩
  have p2 := HK.out w2 he2
  go_wp2_with fail
  clear p2
  refine (C2.out _ (hE.trans he2)).mono ?_
  rintro e w3 ⟨rfl, he3⟩
  go_wp2
  go_ret
  exact ⟨rfl, (hE.trans he2).trans he3⟩

set_option maxRecDepth 100000 in
set_option maxHeartbeats 8000000 in
theorem SameAud_any (av a1 a2 a3 a4 bv b1 b2 b3 b4 : Value) (ps : List PartD) (x y : Int) (w : World) (hpl : ps.length ≤ 5000) (hp : ∀ p ∈ ps, PartTw p) (htn : x.natAbs ≤ 1000000000) (htd : y.natAbs ≤ 1000000000)
    (h1 : IsParts w av ps) (h2 : IsParts w bv ps) (h3 : IsInt w a1 a2 x) (h3b : IsInt w a3 a4 y) (h4 : IsInt w b1 b2 x) (h4b : IsInt w b3 b4 y) :
    Calls Tryz.prog 14 #[.agg #[av, a1, a2, a3, a4], .agg #[bv, b1, b2, b3, b4]] w fun e w' => e = .returned (.bool true) ∧ Ext w w' := by
  obtain ⟨A, d, rfl⟩ := h1.shape
  obtain ⟨B, d', rfl⟩ := h2.shape
  obtain ⟨s1, A1, n1, c1, rfl, rfl, -, -, -⟩ := h3.form
  obtain ⟨s2, A2, n2, c2, rfl, rfl, -, -, -⟩ := h3b.form
  obtain ⟨s3, A3, n3, c3, rfl, rfl, -, -, -⟩ := h4.form
  obtain ⟨s4, A4, n4, c4, rfl, rfl, -, -, -⟩ := h4b.form
  have HP := Lib.hid hp
  have H1 := Lib.hid h1
  have H2 := Lib.hid h2
  have H3 := Lib.hid (And.intro h3 h3b)
  have H4 := Lib.hid (And.intro h4 h4b)
  clear hp h1 h2 h3 h4 h3b h4b
  go_enter Tryz.func14, Tryz.ntmps14
  go_upto_region 1 with fail
  obtain ⟨W, hW⟩ : ∃ W : World, W = (w.alloc (.cells #[.slice A ps.length d, .bool s1, .slice A1 n1 c1, .bool s2, .slice A2 n2 c2] 41)).alloc (.cells #[.slice B ps.length d', .bool s3, .slice A3 n3 c3, .bool s4, .slice A4 n4 c4] 41) := ⟨_, rfl⟩
  rw [← hW]
  have hE : Ext w W := by rw [hW]; exact ((Ext.refl w).alloc _).alloc _
  have HBA : Hid (Blk W w.heap.size 41 #[.slice A ps.length d, .bool s1, .slice A1 n1 c1, .bool s2, .slice A2 n2 c2]) := by rw [hW]; exact Lib.hid ((Blk.newAt _ _ _ (by simp)).alloc _)
  have HBB : Hid (Blk W (w.heap.size + 1) 41 #[.slice B ps.length d', .bool s3, .slice A3 n3 c3, .bool s4, .slice A4 n4 c4]) := by rw [hW]; exact Lib.hid (Blk.newAt _ _ _ (by simp))
  have z1 := HBA.out.five
  have z2 := HBB.out.five
  have HS := Lib.hid (fsame_one (H3.out.1.ext hE) (H3.out.2.ext hE) (H4.out.1.ext hE) (H4.out.2.ext hE) (by omega) (by omega))
  have HP1 := Lib.hid (H1.out.ext hE)
  have HP2 := Lib.hid (H2.out.ext hE)
  clear hW H1 H2 H3 H4
  generalize w.heap.size = ga at *
  go_wp2_with fail
  refine HS.out.mono ?_
  rintro e w1 ⟨rfl, hE1⟩
  clear z1 z2
  go_upto_region 3 with fail
  go_wp2_with fail
  go_loopw [5] (fun t wr => ∃ i : Nat, t = .int .i64 (i : Int) ∧ i ≤ ps.length ∧ Ext W wr) (fun t _ => ps.length - (intOf t).toNat)
  case atStart => exact ⟨0, rfl, Nat.zero_le _, hE1⟩
  case round =>
    obtain ⟨i, rfl, hi, hEr⟩ := hrel
    obtain ⟨wo, rfl⟩ : ∃ wo : World, wo = wr := ⟨_, rfl⟩
    have z1 := (HBA.out.ext hEr).five
    have z2 := (HBB.out.ext hEr).five
    by_cases hlt : i < ps.length
    · obtain ⟨b, o, x1, X1, e1, f1, x2, X2, e2, f2, x3, X3, e3, f3, rfl, hq1, hi1, hc1⟩ := HP1.out.at9v i hlt
      obtain ⟨b', o', y1, Y1, g1, k1, y2, Y2, g2, k2, y3, Y3, g3, k3, rfl, hq2, hi2, hc2⟩ := HP2.out.at9v i hlt
      have hpt := HP.out _ (List.getElem_mem hlt)
      generalize ps[i] = p at *
      obtain ⟨nm, at_, cq, is, cv⟩ := p
      have hcn := hpt.c.num
      have hcd := hpt.c.den
      have hcv := hpt.val
      simp only at hcn hcd hcv hq1 hq2 hi1 hi2 hc1 hc2
      have HSM := Lib.hid (fun (w' : World) (k : Ext W w') => same_one (hq1.ext k) (hq2.ext k) rfl (by omega) (by omega))
      have HSI := Lib.hid (fun (w' : World) (k : Ext W w') => isame_one (hi1.ext k) (hi2.ext k) (by omega))
      have HK := Lib.hid (fun (w' : World) (k : Ext wo w') => And.intro ((HBA.out.ext (hEr.trans k)).cell 0) (And.intro ((HBB.out.ext (hEr.trans k)).cell 0) (And.intro (hc1 w' (hEr.trans k)) (hc2 w' (hEr.trans k)))))
      have q1 := HK.out wo (Ext.refl _)
      have hi0 : (i : Int) < (ps.length : Int) := by omega
      clear hpt hq1 hq2 hi1 hi2 hc1 hc2 hcn hcd hcv z1 z2
      go_upto_region 6 with fail
      go_cut [6, 7] (fun p q wx => ∃ gx gy : Nat, p = .pointer (some ⟨gx, 0, none⟩) ∧ q = .pointer (some ⟨gy, 0, none⟩) ∧ Blk wx gx 62 #[.string ⟨nm.toArray⟩, .int .i64 at_, .bool x1, .slice X1 e1 f1, .bool x2, .slice X2 e2 f2, .bool is, .bool x3, .slice X3 e3 f3] ∧ Blk wx gy 62 #[.string ⟨nm.toArray⟩, .int .i64 at_, .bool y1, .slice Y1 g1 k1, .bool y2, .slice Y2 g2 k2, .bool is, .bool y3, .slice Y3 g3 k3] ∧ Ext wo wx)
      case first =>
        go_region_held3 (fun w' => w'.cell? ⟨ga, 0, none⟩ = some (.slice (some ⟨b, o, none⟩) ps.length d) ∧ w'.cell? ⟨ga + 1, 0, none⟩ = some (.slice (some ⟨b', o', none⟩) ps.length d') ∧ (w'.cell? ⟨b, o + i * 9, none⟩ = some (.string ⟨nm.toArray⟩) ∧ w'.cell? ⟨b, o + i * 9 + 1, none⟩ = some (.int .i64 at_) ∧ w'.cell? ⟨b, o + i * 9 + 2, none⟩ = some (.bool x1) ∧ w'.cell? ⟨b, o + i * 9 + 3, none⟩ = some (.slice X1 e1 f1) ∧ w'.cell? ⟨b, o + i * 9 + 4, none⟩ = some (.bool x2) ∧ w'.cell? ⟨b, o + i * 9 + 5, none⟩ = some (.slice X2 e2 f2) ∧ w'.cell? ⟨b, o + i * 9 + 6, none⟩ = some (.bool is) ∧ w'.cell? ⟨b, o + i * 9 + 7, none⟩ = some (.bool x3) ∧ w'.cell? ⟨b, o + i * 9 + 8, none⟩ = some (.slice X3 e3 f3)) ∧ (w'.cell? ⟨b', o' + i * 9, none⟩ = some (.string ⟨nm.toArray⟩) ∧ w'.cell? ⟨b', o' + i * 9 + 1, none⟩ = some (.int .i64 at_) ∧ w'.cell? ⟨b', o' + i * 9 + 2, none⟩ = some (.bool y1) ∧ w'.cell? ⟨b', o' + i * 9 + 3, none⟩ = some (.slice Y1 g1 k1) ∧ w'.cell? ⟨b', o' + i * 9 + 4, none⟩ = some (.bool y2) ∧ w'.cell? ⟨b', o' + i * 9 + 5, none⟩ = some (.slice Y2 g2 k2) ∧ w'.cell? ⟨b', o' + i * 9 + 6, none⟩ = some (.bool is) ∧ w'.cell? ⟨b', o' + i * 9 + 7, none⟩ = some (.bool y3) ∧ w'.cell? ⟨b', o' + i * 9 + 8, none⟩ = some (.slice Y3 g3 k3)))
          (first | (refine HK.out _ ?_; (repeat (first | with_reducible assumption | with_reducible exact Ext.refl _ | with_reducible refine Ext.drew ?_ | with_reducible refine Ext.drewN ?_ _ | with_reducible refine Ext.alloc ?_ _ | with_reducible refine Ext.set2 ?_ (by omega) _ _ | with_reducible refine Ext.setCell ?_ (by first | omega | (simp; done) | (simp; omega)) _ | with_reducible refine Ext.trans ?_ (by with_reducible assumption))); done))
          (fail)
        all_goals
          go_wp2_with fail
          go_meet
          exact ⟨_, _, rfl, rfl, by (repeat (first | with_reducible assumption | with_reducible exact Blk.newAt _ _ _ (by first | rfl | (simp; done) | (simp; omega)) | with_reducible refine Blk.alloc ?_ _ | with_reducible refine Blk.set2 (x := .bool false) (y := .slice none 0 0) ?_ _ _ | with_reducible refine Blk.far2 ?_ (by omega) _ _ | with_reducible refine Blk.drew ?_ | with_reducible refine Blk.ext ?_ (by with_reducible assumption))), by (repeat (first | with_reducible assumption | with_reducible exact Blk.newAt _ _ _ (by first | rfl | (simp; done) | (simp; omega)) | with_reducible refine Blk.alloc ?_ _ | with_reducible refine Blk.set2 (x := .bool false) (y := .slice none 0 0) ?_ _ _ | with_reducible refine Blk.far2 ?_ (by omega) _ _ | with_reducible refine Blk.drew ?_ | with_reducible refine Blk.ext ?_ (by with_reducible assumption))), by (repeat (first | with_reducible assumption | with_reducible exact Ext.refl _ | with_reducible refine Ext.drew ?_ | with_reducible refine Ext.drewN ?_ _ | with_reducible refine Ext.alloc ?_ _ | with_reducible refine Ext.set2 ?_ (by omega) _ _ | with_reducible refine Ext.setCell ?_ (by first | omega | (simp; done) | (simp; omega)) _ | with_reducible refine Ext.trans ?_ (by with_reducible assumption)))⟩
      case rest =>
        clear q1
        obtain ⟨gx, gy, rfl, rfl, hX, hY, hEx⟩ := hcut
        have hEc := hEr.trans hEx
        have HX := Lib.hid hX
        have HY := Lib.hid hY
        have HEC := Lib.hid hEc
        have m0 := hX.cell 0
        have m1 := hX.cell 1
        have m2 := hX.cell 2
        have m3 := hX.cell 3
        have m4 := hX.cell 4
        have m5 := hX.cell 5
        have m6 := hX.cell 6
        have m7 := hX.cell 7
        have m8 := hX.cell 8
        have l0 := hY.cell 0
        have l1 := hY.cell 1
        have l2 := hY.cell 2
        have l3 := hY.cell 3
        have l4 := hY.cell 4
        have l5 := hY.cell 5
        have l6 := hY.cell 6
        have l7 := hY.cell 7
        have l8 := hY.cell 8
        clear hX hY
        go_wp2_with fail
        refine (HSM.out wc hEc).mono ?_
        rintro e wd ⟨rfl, hEd⟩
        have hEd2 := hEc.trans hEd
        have m7' := (HX.out.ext hEd).cell 7
        have m8' := (HX.out.ext hEd).cell 8
        have l7' := (HY.out.ext hEd).cell 7
        have l8' := (HY.out.ext hEd).cell 8
        clear m0 m1 m2 m3 m4 m5 m6 m7 m8 l0 l1 l2 l3 l4 l5 l6 l7 l8
        go_wp2_with fail
        refine (HSI.out wd hEd2).mono ?_
        rintro e we ⟨rfl, hEe⟩
        have hEe2 := hEd2.trans hEe
        clear m7' m8' l7' l8'
        go_wp2_with fail
        exact ⟨⟨i + 1, by go_num, by omega, hEe2⟩, by (simp [intOf] <;> omega)⟩
    · obtain rfl : i = ps.length := by omega
      go_wp2
      go_ret
      exact ⟨rfl, hE.trans hEr⟩

end Go.Proofs.YtddgjlfniabehaaGreatDoor
