/-
  R38.Audit.
  slices.Reverse of parts.
-/
import Derived.Test.YtekipapkcgoieaaGreatDoorJ11
import Derived.Test.YtekipapkcgoieaaGreatDoorJ08
import Derived.Deep.RegionLaw
set_option linter.unusedVariables false
set_option linter.unusedSimpArgs false

/- R38.Audit. -/
namespace Go.Proofs.YtekipapkcgoieaaGreatDoor
open Go.RowKit
attribute [local go_sem ↓] Go.wp_at_zero Go.wp_at_succ

theorem mkRat_one (z : Int) : mkRat z 1 = (z : Rat) := by
  first
    | exact Rat.mkRat_one z
    | (rw [Rat.mkRat_eq_div]; simp [Rat.div_def]; exact Rat.mul_one _)
    | (rw [Rat.mkRat_eq_div]; simp [Rat.div_def]; rw [show (1 : Rat)⁻¹ = 1 from by decide]; exact Rat.mul_one _)

theorem part_cells_one (nm : ByteArray) (a : Int) (s1 : Bool) (A1 : Option Addr) (n1 c1 : Nat) (s2 : Bool) (A2 : Option Addr) (n2 c2 : Nat) (is s3 : Bool) (A3 : Option Addr) (n3 c3 : Nat) : ∀ u ∈ [Value.string nm, .int .i64 a, .bool s1, .slice A1 n1 c1, .bool s2, .slice A2 n2 c2, .bool is, .bool s3, .slice A3 n3 c3], u.oneCell' = true := by
  intro u hu
  simp at hu
  rcases hu with rfl | rfl | rfl | rfl | rfl | rfl | rfl | rfl | rfl <;> rfl

set_option maxRecDepth 100000 in
set_option maxHeartbeats 4000000 in
theorem Audit38_pos (n : Nat) (w : World) (h0 : 1 ≤ n) (h1 : n ≤ 1024) :
    Calls Tryz.prog 28 #[.int .i64 (n : Int)] w fun e w' => ∃ (v a b c d : Value), e = .returned (.tuple #[.agg #[v, a, b, c, d], .int .i64 0]) ∧ IsParts w' v (partsR n (4 * n + 1)) ∧ IsRat w' a b c d (tot n n : Rat) ∧ Ext w w' := by
  have hT := tot_bd (n := (n : Int)) (by omega) n h1
  go_enter Tryz.func28, Tryz.ntmps28
  have hC1 : ∀ w', Calls Tryz.prog 24 #[.int .i64 (tot n n), .int .i64 1] w' (RRat w' (tot n n : Rat)) := by
    intro w'
    have := rOf1_any (tot n n) 1 w' (by omega) (by omega) (by omega) (by omega)
    rw [mkRat_one] at this
    exact this
  have HC1 := Lib.hid hC1
  clear hC1
  go_wp2_with fail
  obtain ⟨W, hW⟩ : ∃ W : World, W = w.alloc (.cells #[.slice none 0 0, .bool false, .slice none 0 0, .bool false, .slice none 0 0] 41) := ⟨_, rfl⟩
  rw [← hW]
  have hE : Ext w W := by rw [hW]; exact (Ext.refl w).alloc _
  have hB0 : Blk W w.heap.size 41 #[.slice none 0 0, .bool false, .slice none 0 0, .bool false, .slice none 0 0] := by rw [hW]; exact Blk.newAt _ _ _ rfl
  have hWs : W.heap.size = w.heap.size + 1 := by rw [hW]; simp
  clear hW
  refine (Total38_any n W h0 h1).mono ?_
  rintro e w' ⟨rfl, rfl⟩
  go_wp2_with fail
  refine (HC1.out W).mono ?_
  rintro e w2 ⟨s, A, k, c, s', A', k', c', rfl, hq, hE2⟩
  have hB2 := hB0.ext hE2
  have hlt := hB2.lt
  have hEw2 : Ext w w2 := hE.trans hE2
  have HQ := Lib.hid hq
  clear hq
  go_wp2
  go_loopw [5] (fun i wr => ∃ (m : Nat) (A0 : Option Addr) (c0 : Nat) (L : List PartD), i = .int .i64 (m : Int) ∧ m ≤ 4 * n + 1 ∧ Hid (L = partsR n m) ∧ Hid (Blk wr w2.heap.size 41 #[.slice A0 L.length c0, .bool s, .slice A k c, .bool s', .slice A' k' c']) ∧
      Hid (OwnParts (w2.heap.size + 1) wr (.slice A0 L.length c0) L) ∧ Hid (KeepT [123] w2 wr) ∧ Hid (Blk wr w.heap.size 41 #[.slice none 0 0, .bool false, .slice none 0 0, .bool false, .slice none 0 0]) ∧ Ext w wr) (fun i _ => 4 * n + 1 - (intOf i).toNat)
  case atStart =>
    exact ⟨0, _, _, [], rfl, Nat.zero_le _, rfl, Blk.newAt _ _ _ rfl, ⟨[], World.ownsRow_nil _ _ _ _, trivial⟩, KeepT.ext ((Ext.refl _).alloc _), hB2.alloc _, hEw2.alloc _⟩
  case round =>
    obtain ⟨m, A0, c0, L, rfl, hm, hL, hBA, hO, hK, hBR, hEr⟩ := hrel
    have hLl : L.length ≤ 4097 := by rw [hL.out]; exact Nat.le_trans (partsR_len n m) (by omega)
    obtain ⟨wo, rfl⟩ : ∃ wo : World, wo = wr := ⟨_, rfl⟩
    by_cases hmn : m ≤ 4 * n
    · go_wp2
      go_loop [6, 7] (fun q t => ∃ (j cc : Nat), j ≤ 4 * n + 1 ∧ q = .int .i64 (cc : Int) ∧ cc ≤ j ∧ t = .int .i64 ((j : Int) - 2 * n) ∧ Hid (cc = cnt (4 * n) m (2 * n) j)) (fun _ t => (2 * (n : Int) + 1 - intOf t).toNat)
      case atStart => exact ⟨0, 0, Nat.zero_le _, rfl, Nat.le_refl _, by simp, rfl⟩
      case round =>
        obtain ⟨j, cc, hj, rfl, hcj, rfl, hcc⟩ := hrel
        by_cases hjn : j ≤ 4 * n
        · obtain ⟨y, hy⟩ : ∃ y : Int, y = (j : Int) - 2 * n := ⟨_, rfl⟩
          obtain ⟨q, hq, hq0, hq1⟩ : ∃ q : Int, y * y = q ∧ 0 ≤ q ∧ q ≤ 4194304 := by
            obtain ⟨z, hz⟩ : ∃ z : Nat, y.natAbs = z := ⟨_, rfl⟩
            have hm62 : z ≤ 2048 := by omega
            have h1 : z * z ≤ 2048 * 2048 := Nat.mul_le_mul hm62 hm62
            have h2 : ((z * z : Nat) : Int) = y * y := by rw [← hz]; exact Int.natAbs_mul_self
            exact ⟨_, rfl, by omega, by omega⟩
          have HCN := Lib.hid (show cnt (4 * n) m (2 * n) (j + 1) = cnt (4 * n) m (2 * n) j + (if (m : Int) = 4 * n - q then 1 else 0) by simp only [cnt]; rw [← hy, hq])
          rw [← hy]
          have hy1 : -2048 ≤ y := by omega
          have hy2 : y ≤ 2048 := by omega
          have hy3 : y ≤ 2 * (n : Int) := by omega
          have HY := Lib.hid hy
          clear hy
          by_cases hmq : (m : Int) = 4 * n - q
          · go_wp2
            exact ⟨⟨j + 1, cc + 1, by omega, by go_num, by omega, by (congr 1; have := HY.out; push_cast; omega), by (show _ = _; rw [HCN.out, if_pos hmq, hcc.out])⟩, by (simp [intOf] <;> omega)⟩
          · go_wp2
            exact ⟨⟨j + 1, cc, by omega, rfl, by omega, by (congr 1; have := HY.out; push_cast; omega), by (show _ = _; rw [HCN.out, if_neg hmq, hcc.out]; omega)⟩, by (simp [intOf] <;> omega)⟩
        · obtain rfl : j = 4 * n + 1 := by omega
          by_cases hc0 : cc = 0
          · subst hc0
            have hS := Lib.hid (show L = partsR n (m + 1) by rw [partsR_succ, hL.out]; unfold partM; rw [← hcc.out, if_neg (by omega)]; simp)
            go_wp2
            exact ⟨⟨m + 1, A0, c0, L, by go_num, by omega, hS.out, hBA.out, hO.out, hK.out, hBR.out, hEr⟩, by (simp [intOf] <;> omega)⟩
          · have hS := Lib.hid (show L ++ [⟨nameOf m, 0, mkRat cc 12, false, 0⟩] = partsR n (m + 1) by rw [partsR_succ, hL.out]; unfold partM; rw [← hcc.out, if_pos (by omega)]; simp)
            have hC12 : ∀ w', Calls Tryz.prog 24 #[.int .i64 (cc : Int), .int .i64 12] w' (RRat w' (mkRat cc 12)) := fun w' => rOf1_any (cc : Int) 12 w' (by omega) (by omega) (by omega) (by omega)
            have HC12 := Lib.hid hC12
            obtain ⟨ls, ho1, ho2⟩ := hO.out
            have hll := ho2.length
            rw [hll] at ho1
            have HO2 := Lib.hid ho2
            have HO1 := Lib.hid ho1
            have hob := own_block ho1
            have HOB := Lib.hid hob
            have HKx : Hid (∀ w', Ext wo w' → w'.cell? ⟨w2.heap.size, 0, none⟩ = some (.slice A0 L.length c0)) := fun w' h => (hBA.out.ext h).cell 0
            have hcp : (0 : Int) < (cc : Int) := by omega
            have hwo := hEr.size'
            clear hC12 ho1 ho2 hO hob hL hcc
            go_upto_region 14 with fail
            have hx0 := HKx.out wo (Ext.refl _)
            have hwb : w2.heap.size < wo.heap.size := hBA.out.lt
            go_region_law (first | (go_simp; go_at_call 33; (with_reducible refine (Name38_any m _ (by omega)).mono ?_); rintro e w5 ⟨rfl, he5⟩; have hx5 := HKx.out w5 (by (repeat (first | with_reducible assumption | with_reducible exact Ext.refl _ | with_reducible refine Ext.drew ?_ | with_reducible refine Ext.drewN ?_ _ | with_reducible refine Ext.alloc ?_ _ | with_reducible refine Ext.set2 ?_ (by omega) _ _ | with_reducible refine Ext.setCell ?_ (by first | omega | (simp; done) | (simp; omega)) _ | with_reducible refine Ext.trans ?_ (by with_reducible assumption)))); (try go_wp2_with fail)) | (go_simp; go_at_call 24; (with_reducible refine (HC12.out _).mono ?_); rintro e w6 ⟨s3, A3, k3, c3, s4, A4, k4, c4, rfl, hq6, he6⟩; have hx6 := HKx.out w6 (by (repeat (first | with_reducible assumption | with_reducible exact Ext.refl _ | with_reducible refine Ext.drew ?_ | with_reducible refine Ext.drewN ?_ _ | with_reducible refine Ext.alloc ?_ _ | with_reducible refine Ext.set2 ?_ (by omega) _ _ | with_reducible refine Ext.setCell ?_ (by first | omega | (simp; done) | (simp; omega)) _ | with_reducible refine Ext.trans ?_ (by with_reducible assumption)))); have hl6 : w2.heap.size < w6.heap.size := (Blk.ext hBA.out (show Ext wo w6 by (repeat (first | with_reducible assumption | with_reducible exact Ext.refl _ | with_reducible refine Ext.drew ?_ | with_reducible refine Ext.drewN ?_ _ | with_reducible refine Ext.alloc ?_ _ | with_reducible refine Ext.set2 ?_ (by omega) _ _ | with_reducible refine Ext.setCell ?_ (by first | omega | (simp; done) | (simp; omega)) _ | with_reducible refine Ext.trans ?_ (by with_reducible assumption))))).lt; (try go_wp2_with fail)) | ((with_reducible refine step_at 54 ?_); go_must ((refine step_append_rows rfl (.tmp 47) (.tmp 53) _ rfl (w2.heap.size + 1) 45 9 128 Tryz.underlying34 part_info (by decide) (.slice A0 L.length c0) L.length ls.flatten rfl (own_ext HO1.out ?q1) _ [[.string ⟨(nameOf m).toArray⟩, .int .i64 0, .bool s3, .slice A3 k3 c3, .bool s4, .slice A4 k4 c4, .bool false, .bool false, .slice none 0 0]] rfl (RowsOf.one_new _ _ _ rfl (part_cells_one _ _ _ _ _ _ _ _ _ _ _ _ _ _ _) rfl) ?q4 ?q5 ?q6 ?_; (case q1 => (repeat (first | with_reducible assumption | with_reducible exact Ext.refl _ | with_reducible refine Ext.drew ?_ | with_reducible refine Ext.drewN ?_ _ | with_reducible refine Ext.alloc ?_ _ | with_reducible refine Ext.set2 ?_ (by omega) _ _ | with_reducible refine Ext.setCell ?_ (by first | omega | (simp; done) | (simp; omega)) _ | with_reducible refine Ext.trans ?_ (by with_reducible assumption)))); (case q4 => (simp; unfold maxLen; omega)); (case q5 => (simp; omega)); (case q6 => (have hs6 := (show Ext wo w6 by (repeat (first | with_reducible assumption | with_reducible exact Ext.refl _ | with_reducible refine Ext.drew ?_ | with_reducible refine Ext.drewN ?_ _ | with_reducible refine Ext.alloc ?_ _ | with_reducible refine Ext.set2 ?_ (by omega) _ _ | with_reducible refine Ext.setCell ?_ (by first | omega | (simp; done) | (simp; omega)) _ | with_reducible refine Ext.trans ?_ (by with_reducible assumption)))).size'; simp; omega)); intro v7 w7 hown7 hgr7; have hE7 : Ext w w7 := Ext.grown (by (repeat (first | with_reducible assumption | with_reducible exact Ext.refl _ | with_reducible refine Ext.drew ?_ | with_reducible refine Ext.drewN ?_ _ | with_reducible refine Ext.alloc ?_ _ | with_reducible refine Ext.set2 ?_ (by omega) _ _ | with_reducible refine Ext.setCell ?_ (by first | omega | (simp; done) | (simp; omega)) _ | with_reducible refine Ext.trans ?_ (by with_reducible assumption)))) hgr7 (fun k hk => by have := HOB.out k hk; omega); have hA7 : Blk w7 w2.heap.size 41 #[.slice A0 L.length c0, .bool s, .slice A k c, .bool s', .slice A' k' c'] := Blk.grown (Blk.ext hBA.out (by (repeat (first | with_reducible assumption | with_reducible exact Ext.refl _ | with_reducible refine Ext.drew ?_ | with_reducible refine Ext.drewN ?_ _ | with_reducible refine Ext.alloc ?_ _ | with_reducible refine Ext.set2 ?_ (by omega) _ _ | with_reducible refine Ext.setCell ?_ (by first | omega | (simp; done) | (simp; omega)) _ | with_reducible refine Ext.trans ?_ (by with_reducible assumption))))) hgr7 (fun h => by have := HOB.out _ h.symm; omega); have hz7 := hA7.five; have hq7 : IsRat w7 (.bool s3) (.slice A3 k3 c3) (.bool s4) (.slice A4 k4 c4) (mkRat cc 12) := (by refine IsRat.keep hq6 (KeepT.trans (KeepT.ext ?_) (own_keep (own_ext HO1.out ?_) hgr7 (by decide))) <;> (repeat (first | with_reducible assumption | with_reducible exact Ext.refl _ | with_reducible refine Ext.drew ?_ | with_reducible refine Ext.drewN ?_ _ | with_reducible refine Ext.alloc ?_ _ | with_reducible refine Ext.set2 ?_ (by omega) _ _ | with_reducible refine Ext.setCell ?_ (by first | omega | (simp; done) | (simp; omega)) _ | with_reducible refine Ext.trans ?_ (by with_reducible assumption)))); have hK7 : KeepT [123] wo w7 := (by refine KeepT.trans (KeepT.ext ?_) (own_keep (own_ext HO1.out ?_) hgr7 (by decide)) <;> (repeat (first | with_reducible assumption | with_reducible exact Ext.refl _ | with_reducible refine Ext.drew ?_ | with_reducible refine Ext.drewN ?_ _ | with_reducible refine Ext.alloc ?_ _ | with_reducible refine Ext.set2 ?_ (by omega) _ _ | with_reducible refine Ext.setCell ?_ (by first | omega | (simp; done) | (simp; omega)) _ | with_reducible refine Ext.trans ?_ (by with_reducible assumption)))); have hR7 : Blk w7 w.heap.size 41 #[.slice none 0 0, .bool false, .slice none 0 0, .bool false, .slice none 0 0] := Blk.grown (Blk.ext hBR.out (by (repeat (first | with_reducible assumption | with_reducible exact Ext.refl _ | with_reducible refine Ext.drew ?_ | with_reducible refine Ext.drewN ?_ _ | with_reducible refine Ext.alloc ?_ _ | with_reducible refine Ext.set2 ?_ (by omega) _ _ | with_reducible refine Ext.setCell ?_ (by first | omega | (simp; done) | (simp; omega)) _ | with_reducible refine Ext.trans ?_ (by with_reducible assumption))))) hgr7 (fun h => by have := HOB.out _ h.symm; omega); obtain ⟨g7, c7, rfl⟩ := own_succ (k := L.length) hown7))))
            all_goals
              have hO7 : OwnParts (w2.heap.size + 1) w7 (.slice (some ⟨g7, 0, none⟩) (L.length + 1) c7) (L ++ [⟨nameOf m, 0, mkRat cc 12, false, 0⟩]) := by
                refine ⟨ls ++ [[.string ⟨(nameOf m).toArray⟩, .int .i64 0, .bool s3, .slice A3 k3 c3, .bool s4, .slice A4 k4 c4, .bool false, .bool false, .slice none 0 0]], ?_, (HO2.out.mono fun a b h => h.keep hK7).append (All2.one ⟨_, _, _, _, _, _, rfl, hq7, IsInt.zero _⟩)⟩
                rw [List.flatten_append, List.length_append, hll]
                exact hown7
              obtain ⟨u7, hu7⟩ : ∃ u : Value, u = .slice (some ⟨g7, 0, none⟩) (L.length + 1) c7 := ⟨_, rfl⟩
              have hg7 := own_block hown7 g7 rfl
              have hO8 : OwnParts (w2.heap.size + 1) (w7.setCell ⟨w2.heap.size, 0, none⟩ u7) (.slice (some ⟨g7, 0, none⟩) (L.length + 1) c7) (L ++ [⟨nameOf m, 0, mkRat cc 12, false, 0⟩]) := by
                obtain ⟨ls', p1, p2⟩ := hO7
                exact ⟨ls', own_far p1 (p := ⟨w2.heap.size, 0, none⟩) (fun g hg => by have e : g7 = g := Option.some.inj hg; show g ≠ w2.heap.size; omega) _, p2.mono fun a b h => h.keep ((KeepT.refl _ _).set (p := ⟨w2.heap.size, 0, none⟩) hA7.type (by decide) _)⟩
              have hA8 : Blk (w7.setCell ⟨w2.heap.size, 0, none⟩ u7) w2.heap.size 41 #[u7, .bool s, .slice A k c, .bool s', .slice A' k' c'] := hA7.set_ 0 u7
              have hll2 : (L ++ [(⟨nameOf m, 0, mkRat cc 12, false, 0⟩ : PartD)]).length = L.length + 1 := by simp
              have HLL2 := Lib.hid hll2
              have hK8 : KeepT [123] w2 (w7.setCell ⟨w2.heap.size, 0, none⟩ u7) := (hK.out.trans hK7).set (p := ⟨w2.heap.size, 0, none⟩) hA7.type (by decide) _
              have hR8 := hR7.far (p := ⟨w2.heap.size, 0, none⟩) (by show w.heap.size ≠ w2.heap.size; omega) u7
              have hE8 := hE7.setCell (p := ⟨w2.heap.size, 0, none⟩) (by show w.heap.size ≤ w2.heap.size; omega) u7
              rw [hu7] at hA8 hK8 hR8 hE8 hO8
              clear hown7 hgr7 hO7 hq7 hz7 hll2
              have HA8 := Lib.hid hA8
              have HK8 := Lib.hid hK8
              have HR8 := Lib.hid hR8
              have HO8 := Lib.hid hO8
              clear hA8 hK8 hR8 hO8
              go_wp2
              exact ⟨⟨m + 1, some ⟨g7, 0, none⟩, c7, L ++ [(⟨nameOf m, 0, mkRat cc 12, false, 0⟩ : PartD)], by go_num, by omega, hS.out, by rw [HLL2.out]; exact HA8.out, by rw [HLL2.out]; exact HO8.out, HK8.out, HR8.out, hE8⟩, by (simp [intOf] <;> omega)⟩
    · obtain rfl : m = 4 * n + 1 := by omega
      have q0 := hBA.out.five
      have q1 := hBR.out.five
      have hP := (hO.out.is).keep ((KeepT.refl [45, 123] wo).set5 hBR.out.type (by decide) (.slice A0 L.length c0) (.bool s) (.slice A k c) (.bool s') (.slice A' k' c'))
      have hQ := (HQ.out.keep hK.out).keep ((KeepT.refl [123] wo).set5 hBR.out.type (by decide) (.slice A0 L.length c0) (.bool s) (.slice A k c) (.bool s') (.slice A' k' c'))
      have hX := hEr.set5 (Nat.le_refl _) (.slice A0 L.length c0) (.bool s) (.slice A k c) (.bool s') (.slice A' k' c')
      have HP := Lib.hid hP
      have HQQ := Lib.hid hQ
      have HX := Lib.hid hX
      clear hP hQ hX
      go_wp2
      refine bodyPost_ret (v := .tuple #[.agg #[.slice A0 L.length c0, .bool s, .slice A k c, .bool s', .slice A' k' c'], .int .i64 0]) (by simp [results, Tryz.results28, go_sem, q1]) rfl ?_
      exact ⟨.slice A0 L.length c0, .bool s, .slice A k c, .bool s', .slice A' k' c', rfl, by rw [← hL.out]; exact HP.out, HQQ.out, HX.out⟩

end Go.Proofs.YtekipapkcgoieaaGreatDoor

/- slices.Reverse of parts. -/
namespace Go.Proofs.YtekipapkcgoieaaGreatDoor
open Go.RowKit
attribute [local go_sem ↓] Go.wp_at_zero Go.wp_at_succ

theorem load_part (v : Value) : Instr.loadAt 45 v = bigLoad 45 v := rfl
theorem store_part (a v : Value) : Instr.storeAt 45 a v = bigStore 45 a v := rfl
theorem info_part : (Tryz.prog.info? 45).map (·.size) = some 9 := by kernel_rfl
theorem run_load_part (w : World) (b o : Nat) (l : List Value) (hl : l.length = 9) (hc : w.rangeAt b o l) : (bigLoad 45 (.pointer (some ⟨b, o, none⟩))).run Tryz.prog w = .ok (.agg l.toArray) w :=
  run_loadAt_mid w b o 45 l _ hc Tryz.underlying45 rfl (by rw [hl]; exact info_part)
theorem run_store_part (w : World) (b o : Nat) (l : List Value) (hl : l.length = 9) (hc : w.there b o 9) (h1 : ∀ u ∈ l, u.oneCell' = true) : (bigStore 45 (.pointer (some ⟨b, o, none⟩)) (.agg l.toArray)).run Tryz.prog w = .ok () (w.setCells b o l) :=
  run_storeAt_mid w b o 45 l.toArray (by simpa [hl] using hc) (by rw [List.size_toArray, hl]; exact info_part) (all_oneCell_toArray h1)

/-- The rows of a block that this call may write. -/
def RowsAt (w : World) (b o : Nat) (ls : List (List Value)) : Prop := (∃ cur : Array Value, Blk w b 45 cur) ∧ (∀ l ∈ ls, l.length = 9 ∧ ∀ u ∈ l, u.oneCell' = true) ∧ ∀ j l, ls[j]? = some l → w.rangeAt b (o + j * 9) l
theorem Blk.setCellsAny {g : Nat} {t : TypeId} : ∀ (l : List Value) {w : World} {cs : Array Value} (_ : Blk w g t cs) (o : Nat), ∃ cs', Blk (w.setCells g o l) g t cs'
  | [], _, cs, h, _ => ⟨cs, h⟩
  | v :: r, _, _, h, o => by
    obtain ⟨cs', h'⟩ := Blk.setCellsAny r (h.set_ o v) (o + 1)
    exact ⟨cs', h'⟩
theorem RowsAt.there {w : World} {b o : Nat} {ls : List (List Value)} (h : RowsAt w b o ls) (j : Nat) (hj : j < ls.length) : w.there b (o + j * 9) 9 := by
  obtain ⟨⟨cur, hb⟩, h1, h2⟩ := h
  intro i hi
  have hr := h2 j _ (List.getElem?_eq_getElem hj)
  have hl := (h1 _ (List.getElem_mem hj)).1
  refine ⟨World.rangeAt.isSome hr i (by omega), hb.frozen _⟩
theorem RowsAt.put {w : World} {b o : Nat} {ls : List (List Value)} (h : RowsAt w b o ls) (j : Nat) (hj : j < ls.length) (l : List Value) (hl : l.length = 9) (h1 : ∀ u ∈ l, u.oneCell' = true) : RowsAt (w.setCells b (o + j * 9) l) b o (ls.set j l) := by
  refine ⟨?_, ?_, ?_⟩
  · obtain ⟨cur, hb⟩ := h.1
    exact Blk.setCellsAny l hb _
  · intro x hx
    rcases List.mem_or_eq_of_mem_set hx with hx | rfl
    · exact h.2.1 x hx
    · exact ⟨hl, h1⟩
  · intro i x hx
    rw [List.getElem?_set] at hx
    split at hx
    · rename_i hij
      subst hij
      try rw [if_pos hj] at hx
      injection hx with hx
      subst hx
      exact World.rangeAt_setCells_same w b _ _ (by rw [hl]; exact h.there j hj)
    · rename_i hij
      have hxl := (h.2.1 x (List.mem_of_getElem? hx)).1
      refine World.rangeAt_setCells_apart (h.2.2 i x hx) b _ l (.inr ?_)
      rw [hl, hxl]
      rcases Nat.lt_or_gt_of_ne hij with h2 | h2
      · right; have := Nat.mul_le_mul_right 9 (show j + 1 ≤ i from h2); omega
      · left; have := Nat.mul_le_mul_right 9 (show i + 1 ≤ j from h2); omega
/-- The list after j exchanges. -/
def mixed (ls : List (List Value)) (j : Nat) (L : List (List Value)) : Prop := L.length = ls.length ∧ ∀ r, r < ls.length → L[r]? = if r < j ∨ ls.length ≤ r + j then ls[ls.length - 1 - r]? else ls[r]?
theorem mixed_zero (ls : List (List Value)) : mixed ls 0 ls := ⟨rfl, fun r hr => by rw [if_neg (by omega)]⟩
theorem mixed_end {ls L : List (List Value)} {j k : Nat} (h : mixed ls j L) (hk : k + j + 1 = ls.length) (hjk : k ≤ j) : L = ls.reverse := by
  refine List.ext_getElem? fun r => ?_
  rcases Nat.lt_or_ge r ls.length with hr | hr
  · rw [h.2 r hr, List.getElem?_reverse hr]
    split
    · rfl
    · rw [show ls.length - 1 - r = r by omega]
  · rw [List.getElem?_eq_none (by rw [h.1]; exact hr), List.getElem?_eq_none (by simpa using hr)]
theorem mixed_step {ls L : List (List Value)} {j k : Nat} {a b : List Value} (h : mixed ls j L) (hk : k + j + 1 = ls.length) (hjk : j < k) (ha : L[k]? = some a) (hb : L[j]? = some b) : mixed ls (j + 1) ((L.set j a).set k b) := by
  have hk2 := h.2 k (by omega)
  have hj2 := h.2 j (by omega)
  rw [if_neg (by omega)] at hk2 hj2
  refine ⟨by simpa using h.1, fun r hr => ?_⟩
  rw [List.getElem?_set, List.getElem?_set]
  have hL := h.1
  by_cases h1 : k = r
  · subst h1
    rw [if_pos rfl, if_pos (by simpa [hL] using hr), if_pos (by omega), show ls.length - 1 - k = j by omega, ← hj2, hb]
  · rw [if_neg h1]
    by_cases h2 : j = r
    · subst h2
      rw [if_pos rfl, if_pos (by omega), if_pos (by omega), show ls.length - 1 - j = k by omega, ← hk2, ha]
    · rw [if_neg h2, h.2 r hr]
      by_cases h3 : r < j ∨ ls.length ≤ r + j
      · rw [if_pos h3, if_pos (by omega)]
      · rw [if_neg h3, if_neg (by omega)]
theorem grown_setCells {a : World} : ∀ (l : List Value) {w : World} {g : Nat} (_ : a.grownBy w (some g)) (o : Nat), a.grownBy (w.setCells g o l) (some g)
  | [], _, _, h, _ => h
  | v :: r, _, g, h, o => grown_setCells r (grow_set h o v) (o + 1)

attribute [local go_sem ↓] load_part store_part
set_option maxRecDepth 100000 in
set_option maxHeartbeats 2000000 in
theorem Reverse62_any (b o c : Nat) (ls : List (List Value)) (w : World) (h0 : 0 < ls.length) (hlen : ls.length ≤ 100000) (hR : RowsAt w b o ls) :
    Calls Tryz.prog 46 #[.slice (some ⟨b, o, none⟩) ls.length c] w fun e w' => e = .returned (.tuple #[]) ∧ RowsAt w' b o ls.reverse ∧ w.grownBy w' (some b) := by
  obtain ⟨N, hN⟩ : ∃ N : Nat, ls.length = N := ⟨_, rfl⟩
  rw [hN]
  have HR := Lib.hid hR
  clear hR
  go_enter Tryz.func46, Tryz.ntmps46
  go_wp2
  go_loopw [2, 3] (fun i q wr => ∃ (j k : Nat) (L : List (List Value)), i = .int .i64 (j : Int) ∧ q = .int .i64 (k : Int) ∧ k + j + 1 = N ∧ Hid (mixed ls j L) ∧ Hid (RowsAt wr b o L) ∧ Hid (w.grownBy wr (some b))) (fun _ q _ => (intOf q).toNat)
  case atStart =>
    exact ⟨0, N - 1, ls, rfl, by go_num, by omega, mixed_zero ls, HR.out, World.grownBy.refl _ _⟩
  case round =>
    obtain ⟨j, k, L, rfl, rfl, hk, hm, hR, hG⟩ := hrel
    have hLN : L.length = N := by rw [hm.out.1, hN]
    by_cases hjk : j < k
    · have hka : L[k]? = some (L[k]'(by omega)) := List.getElem?_eq_getElem _
      have hjb : L[j]? = some (L[j]'(by omega)) := List.getElem?_eq_getElem _
      obtain ⟨a1, a2⟩ := hR.out.2.1 _ (List.getElem_mem (show k < L.length by omega))
      obtain ⟨b1, b2⟩ := hR.out.2.1 _ (List.getElem_mem (show j < L.length by omega))
      generalize L[k]'(by omega) = la at *
      generalize L[j]'(by omega) = lb at *
      have hD : RowsAt wr.drew b o L := hR.out
      have r1 := run_load_part wr.drew b (o + k * 9) la a1 (hD.2.2 k la hka)
      have r2 := run_load_part wr.drew b (o + j * 9) lb b1 (hD.2.2 j lb hjb)
      have p1 := hD.put j (by omega) la a1 a2
      have p2 := p1.put k (by rw [List.length_set]; omega) lb b1 b2
      have p3 := hD.put k (by omega) lb b1 b2
      have p4 := p3.put j (by rw [List.length_set]; omega) la a1 a2
      have s1 := run_store_part wr.drew b (o + j * 9) la a1 (hD.there j (by omega)) a2
      have s2 := run_store_part _ b (o + k * 9) lb b1 (p1.there k (by rw [List.length_set]; omega)) b2
      have s3 := run_store_part wr.drew b (o + k * 9) lb b1 (hD.there k (by omega)) b2
      have s4 := run_store_part _ b (o + j * 9) la a1 (p3.there j (by rw [List.length_set]; omega)) a2
      have hM := mixed_step hm.out (by rw [hN]; exact hk) hjk hka hjb
      have hg1 := grown_setCells lb (grown_setCells la (show w.grownBy wr.drew (some b) from ⟨hG.out.os, hG.out.tape, hG.out.output, hG.out.size, hG.out.block⟩) (o + j * 9)) (o + k * 9)
      have HP := Lib.hid p2
      have HM := Lib.hid hM
      have HG := Lib.hid hg1
      clear p1 p2 p3 p4 hM hg1 hD
      have i1 : k < N := by omega
      have i2 : j < N := by omega
      go_wp2_with fail
      go_region_law (fail)
      all_goals
        go_wp2
        go_roundw
        case rel => exact ⟨j + 1, k - 1, _, by go_num, by go_num, by omega, HM.out, HP.out, HG.out⟩
        case measure => (simp [intOf] <;> omega)
    · go_wp2
      refine bodyPost_end (v := .tuple #[]) ?_ rfl ?_
      · simp [results, Tryz.results46, go_sem]
      · have e := mixed_end hm.out (by rw [hN]; exact hk) (by omega)
        exact ⟨rfl, by rw [← e]; exact hR.out, hG.out⟩

end Go.Proofs.YtekipapkcgoieaaGreatDoor
