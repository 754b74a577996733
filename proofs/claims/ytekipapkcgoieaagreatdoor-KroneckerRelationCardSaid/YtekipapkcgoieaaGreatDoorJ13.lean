/-
  kronecker.Audit.
  Audits of numbers out of range.
  R38.Known.
-/
import Derived.Test.YtekipapkcgoieaaGreatDoorJ12
import Derived.Test.YtekipapkcgoieaaGreatDoorJ11
import Derived.Test.YtekipapkcgoieaaGreatDoorJ10
import Derived.Test.YtekipapkcgoieaaGreatDoorJ08
set_option linter.unusedVariables false
set_option linter.unusedSimpArgs false

/- kronecker.Audit. -/
namespace Go.Proofs.YtekipapkcgoieaaGreatDoor
open Go.RowKit
attribute [local go_sem ↓] Go.wp_at_zero Go.wp_at_succ

/-! The program's parts of an audit. -/
def partK (n t : Nat) : PartD := ⟨nameOf (4 * n - t * t), 0, if t = 0 then mkRat 1 12 else mkRat 1 6, false, 0⟩
def partsK (n j : Nat) : List PartD := (List.range j).map (partK n)
theorem partsK_succ (n j : Nat) : partsK n (j + 1) = partsK n j ++ [partK n j] := by unfold partsK; rw [List.range_succ, List.map_append]; rfl
theorem partsK_len (n j : Nat) : (partsK n j).length = j := by simp [partsK]

theorem grown_keep {w w' : World} {g : Nat} {t : TypeId} {cs : Array Value} {ts : List TypeId} (h : Blk w g t cs) (hg : w.grownBy w' (some g)) (hs : t ∉ ts) : KeepT ts w w' := by
  refine ⟨hg.size, fun b cs' t' fz hb ht => (hg.block b (block_lt hb) ?_).trans hb⟩
  intro hv
  injection hv with hv
  subst hv
  have h2 := h
  unfold Blk at h2
  rw [hb] at h2; injection h2 with h2; injection h2 with _ h2
  exact hs (h2 ▸ ht)
theorem OwnParts.rowsAt {base : Nat} {w : World} {v : Value} {ps : List PartD} (h : OwnParts base w v ps) (h0 : 0 < ps.length) :
    ∃ g c ls, v = .slice (some ⟨g, 0, none⟩) ps.length c ∧ ps.length ≤ c ∧ base ≤ g ∧ RowsAt w g 0 ls ∧ ls.length = ps.length ∧ All2 (IsPart w) ls ps := by
  obtain ⟨ls, h1, h2⟩ := h
  have hl := h2.length
  have hR := RowsOf.of_own (all2_mem (fun a b hab => ⟨IsPart.len hab, IsPart.one hab⟩) h2) h1
  rcases h1.2 with ⟨rfl, e⟩ | ⟨g, cap, cur, rfl, hb, hh, hc, _⟩
  · omega
  · refine ⟨g, cap, ls, by rw [hl], by omega, hb, ⟨⟨cur, hh⟩, hR.1, fun j l hj => ?_⟩, hl, h2⟩
    rcases hR.2 with ⟨e, _⟩ | ⟨b, o, c, e, _, _, hx⟩
    · cases e
    · injection e with e; injection e with e; injection e with e1 e2; subst e1; subst e2
      exact hx j l hj
theorem RowsAt.is {w : World} {g n c : Nat} {ls : List (List Value)} {ps : List PartD} (h : RowsAt w g 0 ls) (hn : n = ls.length) (hc : n ≤ c) (h2 : All2 (IsPart w) ls ps) : IsParts w (.slice (some ⟨g, 0, none⟩) n c) ps := by
  obtain ⟨⟨cur, hb⟩, h1, h3⟩ := h
  subst hn
  exact ⟨ls, ⟨h1, .inr ⟨g, 0, c, rfl, hc, hb.type, h3⟩⟩, h2⟩

set_option maxRecDepth 100000 in
set_option maxHeartbeats 4000000 in
theorem AuditK_pos (n : Nat) (w : World) (h0 : 1 ≤ n) (h1 : n ≤ 1024) (ht : Tab w) :
    Calls Tryz.prog 17 #[.int .i64 (n : Int)] w fun e w' => ∃ (v a b c d : Value) (T : Nat), e = .returned (.tuple #[.agg #[v, a, b, c, d], .int .i64 0]) ∧ (∀ i, i < T → i * i ≤ 4 * n) ∧ 4 * n < T * T ∧ IsParts w' v (partsK n T).reverse ∧ IsRat w' a b c d (tot n n : Rat) ∧ Ext w w' := by
  have hT := tot_bd (n := (n : Int)) (by omega) n h1
  have hC1 : ∀ w', Calls Tryz.prog 34 #[.int .i64 (tot n n), .int .i64 1] w' (RRat w' (tot n n : Rat)) := by
    intro w'
    have := fraction_any (tot n n) 1 w' (by omega) (by omega) (by omega) (by omega)
    rw [mkRat_one] at this
    exact this
  have HC1 := Lib.hid hC1
  have HT := Lib.hid ht
  clear hC1 ht
  go_enter Tryz.func17, Tryz.ntmps17
  go_wp2_with fail
  obtain ⟨W, hW⟩ : ∃ W : World, W = w.alloc (.cells #[.slice none 0 0, .bool false, .slice none 0 0, .bool false, .slice none 0 0] 41) := ⟨_, rfl⟩
  rw [← hW]
  have hE : Ext w W := by rw [hW]; exact (Ext.refl w).alloc _
  have hB0 : Blk W w.heap.size 41 #[.slice none 0 0, .bool false, .slice none 0 0, .bool false, .slice none 0 0] := by rw [hW]; exact Blk.newAt _ _ _ rfl
  have hWs : W.heap.size = w.heap.size + 1 := by rw [hW]; simp
  clear hW
  go_loop [4, 5] (fun s d => ∃ (k : Nat) (S : Int), k ≤ n ∧ d = .int .i64 ((k : Int) + 1) ∧ s = .int .i64 S ∧ 0 ≤ S ∧ S ≤ 2048 * k ∧ Hid (S = tot n k)) (fun _ d => n + 1 - (intOf d).toNat)
  case atStart => exact ⟨0, 0, Nat.zero_le _, rfl, rfl, by omega, by omega, rfl⟩
  case round =>
    obtain ⟨k, S, hk, rfl, rfl, hS0, hS1, hS⟩ := hrel
    by_cases hkn : k < n
    · have hb := tot_bd (n := (n : Int)) (by omega) (k + 1) (by omega)
      have hT := Lib.hid (show tot n (k + 1) = tot n k + totAt n ((k : Int) + 1) from rfl)
      rw [show tot n (k + 1) = S + totAt n ((k : Int) + 1) by rw [hT.out, hS.out]] at hb
      obtain ⟨q, hq, hq0, hq1⟩ : ∃ q : Int, (n : Int) / ((k : Int) + 1) = q ∧ 0 ≤ q ∧ q ≤ 1024 := ⟨_, rfl, Int.ediv_nonneg (by omega) (by omega), Int.le_trans (Int.ediv_le_self _ (by omega)) (by omega)⟩
      obtain ⟨r, hr, hr0⟩ : ∃ r : Int, (n : Int) % ((k : Int) + 1) = r ∧ 0 ≤ r := ⟨_, rfl, Int.emod_nonneg _ (by omega)⟩
      have hr1 : r < (k : Int) + 1 := by rw [← hr]; exact Int.emod_lt_of_pos _ (by omega)
      have hq2 : (n : Int).tdiv ((k : Int) + 1) = q := by rw [Int.tdiv_eq_ediv_of_nonneg (by omega)]; exact hq
      have hr2 : (n : Int).tmod ((k : Int) + 1) = r := by rw [Int.tmod_eq_emod_of_nonneg (by omega)]; exact hr
      have hz4 : (((k : Int) + 1 : Int) == 0) = false := by rw [beq_eq_false_iff_ne]; omega
      have HA := Lib.hid (show totAt n ((k : Int) + 1) = if r = 0 then 2 * ((k : Int) + 1) - min ((k : Int) + 1) q else 0 by unfold totAt; rw [hq, hr])
      rw [HA.out] at hb
      have HB := Lib.hid hb
      clear hb
      by_cases hr00 : r = 0
      · subst hr00
        have hb := HB.out
        rw [if_pos rfl] at hb
        go_wp2
        refine ⟨⟨k + 1, tot n (k + 1), by omega, by go_num, ?_, by rw [hT.out, HA.out, if_pos rfl, ← hS.out]; exact hb.1, by rw [hT.out, HA.out, if_pos rfl, ← hS.out]; exact hb.2, rfl⟩, by (simp [intOf] <;> omega)⟩
        congr 1
        rw [hT.out, HA.out, if_pos rfl, ← hS.out]
        all_goals (split <;> omega)
      · have hr3 : (r == 0) = false := by rw [beq_eq_false_iff_ne]; exact hr00
        go_wp2
        go_round
        case rel => exact ⟨k + 1, S, by omega, by go_num, rfl, by omega, by push_cast; omega, by (show _ = _; rw [hT.out, HA.out, if_neg hr00, hS.out]; omega)⟩
        case measure => (simp [intOf] <;> omega)
    · obtain rfl : n = k := by omega
      have hSS := hS.out
      subst hSS
      go_wp2_with fail
      refine (HC1.out W).mono ?_
      rintro e w2 ⟨s, A, k', c, s', A', k'', c', rfl, hq, hE2⟩
      have hB2 := hB0.ext hE2
      have hlt := hB2.lt
      have hEw2 : Ext w w2 := hE.trans hE2
      have HQ := Lib.hid hq
      clear hq
      have hC6 : ∀ w', Calls Tryz.prog 34 #[.int .i64 1, .int .i64 6] w' (RRat w' (mkRat 1 6)) := fun w' => fraction_any 1 6 w' (by omega) (by omega) (by omega) (by omega)
      have hC12 : ∀ w', Calls Tryz.prog 34 #[.int .i64 1, .int .i64 12] w' (RRat w' (mkRat 1 12)) := fun w' => fraction_any 1 12 w' (by omega) (by omega) (by omega) (by omega)
      have HC6 := Lib.hid hC6
      have HC12 := Lib.hid hC12
      clear hC6 hC12
      go_wp2
      go_loopw [7] (fun i wr => ∃ (j : Nat) (A0 : Option Addr) (c0 : Nat), i = .int .i64 (j : Int) ∧ Hid (∀ i, i < j → i * i ≤ 4 * n) ∧ Hid (Blk wr w2.heap.size 41 #[.slice A0 j c0, .bool s, .slice A k' c, .bool s', .slice A' k'' c']) ∧
        Hid (OwnParts (w2.heap.size + 1) wr (.slice A0 j c0) (partsK n j)) ∧ Hid (KeepT [123] w2 wr) ∧ Hid (Blk wr w.heap.size 41 #[.slice none 0 0, .bool false, .slice none 0 0, .bool false, .slice none 0 0]) ∧ Ext w wr) (fun i _ => 100 - (intOf i).toNat)
      case atStart =>
        exact ⟨0, _, _, rfl, fun i hi => absurd hi (Nat.not_lt_zero _), Blk.newAt _ _ _ rfl, ⟨[], World.ownsRow_nil _ _ _ _, trivial⟩, KeepT.ext ((Ext.refl _).alloc _), hB2.alloc _, hEw2.alloc _⟩
      case round =>
        obtain ⟨j, A0, c0, rfl, hsq, hBA, hO, hK, hBR, hEr⟩ := hrel
        have hj65 : j ≤ 65 := by
          rcases Nat.lt_or_ge 65 j with h | h
          · have := hsq.out 65 h; omega
          · exact h
        obtain ⟨q, hq, hqq, hq1⟩ : ∃ q : Nat, (j : Int) * (j : Int) = (q : Int) ∧ q = j * j ∧ q ≤ 4225 := ⟨j * j, by simp, rfl, Nat.mul_le_mul hj65 hj65⟩
        have HQQ := Lib.hid hqq
        clear hqq
        obtain ⟨wo, rfl⟩ : ∃ wo : World, wo = wr := ⟨_, rfl⟩
        by_cases hqn : q ≤ 4 * n
        · obtain ⟨m, hm, hmm⟩ : ∃ m : Nat, 4 * (n : Int) - (q : Int) = (m : Int) ∧ m = 4 * n - q := ⟨4 * n - q, by omega, rfl⟩
          have hm5 : m ≤ 4096 := by omega
          have HMM := Lib.hid hmm
          clear hmm
          have hl := decDigits_len m (by omega)
          have hl2 : ¬ 9223372036854775807 < 2 + (Lib.decDigits m).length := by omega
          have hns : (⟨#[104, 58]⟩ : ByteArray) ++ ⟨#[]⟩ ++ ⟨(Lib.decDigits m).toArray⟩ = ⟨(nameOf m).toArray⟩ := name_str (Lib.decDigits m)
          go_wp2_with fail
          refine (Of_any (m : Int) wo (by omega) (by omega)).mono ?_
          rintro e w3 ⟨s3, A3, k3, c3, rfl, hq3, he3⟩
          go_wp2_with fail
          refine (TextP_any _ _ m w3 (by omega) (HT.out.ext (hEr.trans he3)) hq3).mono ?_
          rintro e w4 ⟨rfl, he4⟩
          go_wp2_with fail
          refine (HC6.out w4).mono ?_
          rintro e w5 ⟨s5, A5, k5, c5, s6, A6, k6, c6, rfl, hq5, he5⟩
          have hE5 : Ext wo w5 := (he3.trans he4).trans he5
          by_cases hj0 : j = 0
          · subst hj0
            go_wp2_with fail
            obtain ⟨w6, hw6⟩ : ∃ w6 : World, w6 = w5.alloc (.cells #[.bool s5, .slice A5 k5 c5, .bool s6, .slice A6 k6 c6] 39) := ⟨_, rfl⟩
            rw [← hw6]
            have hE6 : Ext wo w6 := by rw [hw6]; exact hE5.alloc _
            have hB6 : Blk w6 w5.heap.size 39 #[.bool s5, .slice A5 k5 c5, .bool s6, .slice A6 k6 c6] := by rw [hw6]; exact Blk.newAt _ _ _ rfl
            have hl5 := hE5.size'
            have hl0 := hEr.size'
            have hlA := hBA.out.lt
            clear hw6
            generalize w5.heap.size = gR at *
            refine (HC12.out w6).mono ?_
            rintro e w7 ⟨s7, A7, k7, c7, s8, A8, k8, c8, rfl, hq7, he7⟩
            have hB7 := hB6.ext he7
            have y7 := hB7.four
            go_upto_region 17 with fail
            obtain ⟨w8, hw8⟩ : ∃ w8 : World, w8 = (((w7.setCell ⟨gR, 0, none⟩ (.bool s7)).setCell ⟨gR, 1, none⟩ (.slice A7 k7 c7)).setCell ⟨gR, 2, none⟩ (.bool s8)).setCell ⟨gR, 3, none⟩ (.slice A8 k8 c8) := ⟨_, rfl⟩
            rw [← hw8]
            have hE8 : Ext wo w8 := by rw [hw8]; exact (hE6.trans he7).set4 (by omega) _ _ _ _
            have hB8 : Blk w8 gR 39 #[.bool s7, .slice A7 k7 c7, .bool s8, .slice A8 k8 c8] := by rw [hw8]; exact (((hB7.set_ 0 (.bool s7)).set_ 1 (.slice A7 k7 c7)).set_ 2 (.bool s8)).set_ 3 (.slice A8 k8 c8)
            have hq8 : IsRat w8 (.bool s7) (.slice A7 k7 c7) (.bool s8) (.slice A8 k8 c8) (mkRat 1 12) := by rw [hw8]; exact ⟨hq7.1.set4 hB7.type (by decide) _ _ _ _, hq7.2.set4 hB7.type (by decide) _ _ _ _⟩
            clear hw8 y7 hB7 hB6 hq7
            have hA8 := hBA.out.ext hE8
            have z8 := hA8.five
            have y8 := hB8.four
            have l8 := hA8.lt
            go_wp2_with (with_reducible refine stop_at 70 ?_)
            obtain ⟨ls, ho1, ho2⟩ := hO.out
            have hll := ho2.length
            rw [partsK_len] at hll
            rw [hll] at ho1
            refine wpList_append_rows rfl (.tmp 64) (.tmp 69) _ rfl (w2.heap.size + 1) 45 9 128 Tryz.underlying34 part_info (by decide) (.slice A0 0 c0) 0 ls.flatten rfl (own_ext ho1 (hE8.alloc _)) _ [[.string ⟨(nameOf m).toArray⟩, .int .i64 0, .bool s7, .slice A7 k7 c7, .bool s8, .slice A8 k8 c8, .bool false, .bool false, .slice none 0 0]] rfl (RowsOf.one_new _ _ _ rfl (part_cells_one _ _ _ _ _ _ _ _ _ _ _ _ _ _ _) rfl) (by (try simp); (try unfold maxLen); (try omega)) (by (try simp); (try omega)) (by have := hA8.lt; (try simp); (try omega)) ?_
            intro v9 w9 hown9 hgr9
            obtain ⟨g9, c9, rfl⟩ := own_succ (k := 0) hown9
            have hE9 : Ext w w9 := ((hEr.trans hE8).alloc _).grown hgr9 (fun k hk => by have := own_block ho1 k hk; omega)
            have hK9 : KeepT [123] w8 w9 := (KeepT.ext ((Ext.refl w8).alloc _)).trans (own_keep (own_ext ho1 (hE8.alloc _)) hgr9 (by decide))
            have hA9 := (hA8.alloc (.cells #[.string ⟨(nameOf m).toArray⟩, .int .i64 0, .bool s7, .slice A7 k7 c7, .bool s8, .slice A8 k8 c8, .bool false, .bool false, .slice none 0 0] 45)).grown hgr9 (fun h => by have := own_block ho1 _ h.symm; omega)
            have hR9 := ((hBR.out.ext hE8).alloc (.cells #[.string ⟨(nameOf m).toArray⟩, .int .i64 0, .bool s7, .slice A7 k7 c7, .bool s8, .slice A8 k8 c8, .bool false, .bool false, .slice none 0 0] 45)).grown hgr9 (fun h => by have := own_block ho1 _ h.symm; omega)
            have hO9 : OwnParts (w2.heap.size + 1) w9 (.slice (some ⟨g9, 0, none⟩) (0 + 1) c9) (partsK n (0 + 1)) := by
              rw [partsK_succ]
              refine ⟨ls ++ [[.string ⟨(nameOf m).toArray⟩, .int .i64 0, .bool s7, .slice A7 k7 c7, .bool s8, .slice A8 k8 c8, .bool false, .bool false, .slice none 0 0]], ?_, (ho2.mono fun a b h => (h.ext hE8).keep hK9).append (All2.one ⟨_, _, _, _, _, _, by unfold partK; rw [← HQQ.out, ← HMM.out], by unfold partK; rw [if_pos rfl]; exact hq8.keep hK9, IsInt.zero _⟩)⟩
              rw [List.flatten_append, List.length_append, hll]
              exact hown9
            have hg9 := own_block hown9 g9 rfl
            obtain ⟨u9, hu9⟩ : ∃ u : Value, u = .slice (some ⟨g9, 0, none⟩) (0 + 1) c9 := ⟨_, rfl⟩
            have hOa : OwnParts (w2.heap.size + 1) (w9.setCell ⟨w2.heap.size, 0, none⟩ u9) (.slice (some ⟨g9, 0, none⟩) (0 + 1) c9) (partsK n (0 + 1)) := by
              obtain ⟨ls', p1, p2⟩ := hO9
              exact ⟨ls', own_far p1 (p := ⟨w2.heap.size, 0, none⟩) (fun g hg => by have e : g9 = g := Option.some.inj hg; show g ≠ w2.heap.size; omega) _, p2.mono fun a b h => h.keep ((KeepT.refl _ _).set (p := ⟨w2.heap.size, 0, none⟩) hA9.type (by decide) _)⟩
            have hAa : Blk (w9.setCell ⟨w2.heap.size, 0, none⟩ u9) w2.heap.size 41 #[u9, .bool s, .slice A k' c, .bool s', .slice A' k'' c'] := hA9.set_ 0 u9
            have hKa : KeepT [123] w2 (w9.setCell ⟨w2.heap.size, 0, none⟩ u9) := ((hK.out.trans (KeepT.ext hE8)).trans hK9).set (p := ⟨w2.heap.size, 0, none⟩) hA9.type (by decide) _
            have hRa := hR9.far (p := ⟨w2.heap.size, 0, none⟩) (by show w.heap.size ≠ w2.heap.size; omega) u9
            have hEa := hE9.setCell (p := ⟨w2.heap.size, 0, none⟩) (by show w.heap.size ≤ w2.heap.size; omega) u9
            rw [hu9] at hAa hKa hRa hEa hOa
            have z9 := hA9.five
            have HAa := Lib.hid hAa
            have HKa := Lib.hid hKa
            have HRa := Lib.hid hRa
            have HOa := Lib.hid hOa
            have HSQ := Lib.hid (show ∀ i, i < 0 + 1 → i * i ≤ 4 * n from fun i hi => by
              rcases Nat.lt_or_ge i 0 with h | h
              · exact hsq.out i h
              · have e : i = 0 := by omega
                rw [e, ← HQQ.out]; exact hqn)
            clear hAa hKa hRa hOa hO9 hK9 hR9 hown9 hgr9 ho1 ho2 z8 y8 hu9
            go_wp2
            go_roundw
            case rel => exact ⟨0 + 1, some ⟨g9, 0, none⟩, c9, by go_num, HSQ.out, HAa.out, HOa.out, HKa.out, HRa.out, hEa⟩
            case measure => (simp [intOf] <;> omega)
          · have hj1 : ((j : Int) == 0) = false := by rw [beq_eq_false_iff_ne]; omega
            go_upto_region 17 with fail
            obtain ⟨w8, hw8⟩ : ∃ w8 : World, w8 = w5.alloc (.cells #[.bool s5, .slice A5 k5 c5, .bool s6, .slice A6 k6 c6] 39) := ⟨_, rfl⟩
            rw [← hw8]
            have hE8 : Ext wo w8 := by rw [hw8]; exact hE5.alloc _
            have hB8 : Blk w8 w5.heap.size 39 #[.bool s5, .slice A5 k5 c5, .bool s6, .slice A6 k6 c6] := by rw [hw8]; exact Blk.newAt _ _ _ rfl
            have hq8 : IsRat w8 (.bool s5) (.slice A5 k5 c5) (.bool s6) (.slice A6 k6 c6) (mkRat 1 6) := by rw [hw8]; exact ⟨hq5.1.alloc _, hq5.2.alloc _⟩
            clear hw8
            generalize w5.heap.size = gR at *
            have hA8 := hBA.out.ext hE8
            have z8 := hA8.five
            have y8 := hB8.four
            have l8 := hA8.lt
            go_wp2_with (with_reducible refine stop_at 70 ?_)
            obtain ⟨ls, ho1, ho2⟩ := hO.out
            have hll := ho2.length
            rw [partsK_len] at hll
            rw [hll] at ho1
            refine wpList_append_rows rfl (.tmp 64) (.tmp 69) _ rfl (w2.heap.size + 1) 45 9 128 Tryz.underlying34 part_info (by decide) (.slice A0 j c0) j ls.flatten rfl (own_ext ho1 (hE8.alloc _)) _ [[.string ⟨(nameOf m).toArray⟩, .int .i64 0, .bool s5, .slice A5 k5 c5, .bool s6, .slice A6 k6 c6, .bool false, .bool false, .slice none 0 0]] rfl (RowsOf.one_new _ _ _ rfl (part_cells_one _ _ _ _ _ _ _ _ _ _ _ _ _ _ _) rfl) (by (try simp); (try unfold maxLen); (try omega)) (by (try simp); (try omega)) (by have := hA8.lt; (try simp); (try omega)) ?_
            intro v9 w9 hown9 hgr9
            obtain ⟨g9, c9, rfl⟩ := own_succ (k := j) hown9
            have hE9 : Ext w w9 := ((hEr.trans hE8).alloc _).grown hgr9 (fun k hk => by have := own_block ho1 k hk; omega)
            have hK9 : KeepT [123] w8 w9 := (KeepT.ext ((Ext.refl w8).alloc _)).trans (own_keep (own_ext ho1 (hE8.alloc _)) hgr9 (by decide))
            have hA9 := (hA8.alloc (.cells #[.string ⟨(nameOf m).toArray⟩, .int .i64 0, .bool s5, .slice A5 k5 c5, .bool s6, .slice A6 k6 c6, .bool false, .bool false, .slice none 0 0] 45)).grown hgr9 (fun h => by have := own_block ho1 _ h.symm; omega)
            have hR9 := ((hBR.out.ext hE8).alloc (.cells #[.string ⟨(nameOf m).toArray⟩, .int .i64 0, .bool s5, .slice A5 k5 c5, .bool s6, .slice A6 k6 c6, .bool false, .bool false, .slice none 0 0] 45)).grown hgr9 (fun h => by have := own_block ho1 _ h.symm; omega)
            have hO9 : OwnParts (w2.heap.size + 1) w9 (.slice (some ⟨g9, 0, none⟩) (j + 1) c9) (partsK n (j + 1)) := by
              rw [partsK_succ]
              refine ⟨ls ++ [[.string ⟨(nameOf m).toArray⟩, .int .i64 0, .bool s5, .slice A5 k5 c5, .bool s6, .slice A6 k6 c6, .bool false, .bool false, .slice none 0 0]], ?_, (ho2.mono fun a b h => (h.ext hE8).keep hK9).append (All2.one ⟨_, _, _, _, _, _, by unfold partK; rw [← HQQ.out, ← HMM.out], by unfold partK; rw [if_neg hj0]; exact hq8.keep hK9, IsInt.zero _⟩)⟩
              rw [List.flatten_append, List.length_append, hll]
              exact hown9
            have hg9 := own_block hown9 g9 rfl
            obtain ⟨u9, hu9⟩ : ∃ u : Value, u = .slice (some ⟨g9, 0, none⟩) (j + 1) c9 := ⟨_, rfl⟩
            have hOa : OwnParts (w2.heap.size + 1) (w9.setCell ⟨w2.heap.size, 0, none⟩ u9) (.slice (some ⟨g9, 0, none⟩) (j + 1) c9) (partsK n (j + 1)) := by
              obtain ⟨ls', p1, p2⟩ := hO9
              exact ⟨ls', own_far p1 (p := ⟨w2.heap.size, 0, none⟩) (fun g hg => by have e : g9 = g := Option.some.inj hg; show g ≠ w2.heap.size; omega) _, p2.mono fun a b h => h.keep ((KeepT.refl _ _).set (p := ⟨w2.heap.size, 0, none⟩) hA9.type (by decide) _)⟩
            have hAa : Blk (w9.setCell ⟨w2.heap.size, 0, none⟩ u9) w2.heap.size 41 #[u9, .bool s, .slice A k' c, .bool s', .slice A' k'' c'] := hA9.set_ 0 u9
            have hKa : KeepT [123] w2 (w9.setCell ⟨w2.heap.size, 0, none⟩ u9) := ((hK.out.trans (KeepT.ext hE8)).trans hK9).set (p := ⟨w2.heap.size, 0, none⟩) hA9.type (by decide) _
            have hRa := hR9.far (p := ⟨w2.heap.size, 0, none⟩) (by show w.heap.size ≠ w2.heap.size; omega) u9
            have hEa := hE9.setCell (p := ⟨w2.heap.size, 0, none⟩) (by show w.heap.size ≤ w2.heap.size; omega) u9
            rw [hu9] at hAa hKa hRa hEa hOa
            have z9 := hA9.five
            have HAa := Lib.hid hAa
            have HKa := Lib.hid hKa
            have HRa := Lib.hid hRa
            have HOa := Lib.hid hOa
            have HSQ := Lib.hid (show ∀ i, i < j + 1 → i * i ≤ 4 * n from fun i hi => by
              rcases Nat.lt_or_ge i j with h | h
              · exact hsq.out i h
              · have e : i = j := by omega
                rw [e, ← HQQ.out]; exact hqn)
            clear hAa hKa hRa hOa hO9 hK9 hR9 hown9 hgr9 ho1 ho2 z8 y8 hu9
            go_wp2
            go_roundw
            case rel => exact ⟨j + 1, some ⟨g9, 0, none⟩, c9, by go_num, HSQ.out, HAa.out, HOa.out, HKa.out, HRa.out, hEa⟩
            case measure => (simp [intOf] <;> omega)
        · have hj0 : 0 < j := by
            rcases Nat.eq_zero_or_pos j with h | h
            · have := HQQ.out; rw [h] at this; omega
            · exact h
          obtain ⟨g, c9, ls, hv, hc9, hgb, hRA, hls, hA2⟩ := hO.out.rowsAt (by rw [partsK_len]; exact hj0)
          rw [partsK_len] at hv hc9 hls
          injection hv with hv1 _ hv2
          subst hv1; subst hv2
          have hC : Calls Tryz.prog 46 #[.slice (some ⟨g, 0, none⟩) j c0] wo fun e w' => e = .returned (.tuple #[]) ∧ RowsAt w' g 0 ls.reverse ∧ wo.grownBy w' (some g) := by
            have := Reverse62_any g 0 c0 ls wo (by omega) (by omega) hRA
            rwa [hls] at this
          obtain ⟨curP, hbP⟩ := hRA.1
          have z0 := hBA.out.five
          have HA2 := Lib.hid hA2
          have HBP := Lib.hid hbP
          clear hRA hA2 hbP
          go_wp2_with fail
          refine hC.mono ?_
          rintro e w9 ⟨rfl, hRA9, hG9⟩
          have hA9 := hBA.out.grown hG9 (by intro h; injection h with h; omega)
          have hR9 := hBR.out.grown hG9 (by intro h; injection h with h; omega)
          have hE9 : Ext w w9 := hEr.grown hG9 (fun k hk => by injection hk with hk; omega)
          have hK9 : KeepT [123] wo w9 := grown_keep HBP.out hG9 (by decide)
          have hP := (hRA9.is (n := j) (c := c0) (by simp [hls]) hc9 ((HA2.out.mono fun a b h => h.keep hK9).reverse)).keep ((KeepT.refl [45, 123] w9).set5 hR9.type (by decide) (.slice (some ⟨g, 0, none⟩) j c0) (.bool s) (.slice A k' c) (.bool s') (.slice A' k'' c'))
          have hQ := (HQ.out.keep (hK.out.trans hK9)).keep ((KeepT.refl [123] w9).set5 hR9.type (by decide) (.slice (some ⟨g, 0, none⟩) j c0) (.bool s) (.slice A k' c) (.bool s') (.slice A' k'' c'))
          have hX := hE9.set5 (Nat.le_refl _) (.slice (some ⟨g, 0, none⟩) j c0) (.bool s) (.slice A k' c) (.bool s') (.slice A' k'' c')
          have q0 := hA9.five
          have q1 := hR9.five
          have HP := Lib.hid hP
          have HQ3 := Lib.hid hQ
          have HX := Lib.hid hX
          have HLT := Lib.hid (show 4 * n < j * j by have := HQQ.out; omega)
          clear hP hQ hX hRA9 hG9 hK9 z0
          go_wp2
          refine bodyPost_ret (v := .tuple #[.agg #[.slice (some ⟨g, 0, none⟩) j c0, .bool s, .slice A k' c, .bool s', .slice A' k'' c'], .int .i64 0]) (by simp [results, Tryz.results17, go_sem, q1]) rfl ?_
          exact ⟨.slice (some ⟨g, 0, none⟩) j c0, .bool s, .slice A k' c, .bool s', .slice A' k'' c', j, rfl, hsq.out, HLT.out, HP.out, HQ3.out, HX.out⟩

end Go.Proofs.YtekipapkcgoieaaGreatDoor

/- Audits of numbers out of range. -/
namespace Go.Proofs.YtekipapkcgoieaaGreatDoor
open Go.RowKit
attribute [local go_sem ↓] Go.wp_at_zero Go.wp_at_succ

set_option maxRecDepth 100000 in
set_option maxHeartbeats 2000000 in
theorem AuditK_out (n : Int) (w : World) (h : n < 1 ∨ 1024 < n) :
    Calls Tryz.prog 17 #[.int .i64 n] w fun e w' => e = .returned (.tuple #[.agg #[.slice none 0 0, .bool false, .slice none 0 0, .bool false, .slice none 0 0], .int .i64 1]) ∧ Ext w w' := by
  go_enter Tryz.func17, Tryz.ntmps17
  rcases h with h | h
  · go_wp2
    refine bodyPost_ret (v := .tuple #[.agg #[.slice none 0 0, .bool false, .slice none 0 0, .bool false, .slice none 0 0], .int .i64 1]) (by simp [results, Tryz.results17, go_sem]) rfl ?_
    exact ⟨rfl, (Ext.refl w).alloc _⟩
  · have h2 : ¬ n < 1 := by omega
    go_wp2
    refine bodyPost_ret (v := .tuple #[.agg #[.slice none 0 0, .bool false, .slice none 0 0, .bool false, .slice none 0 0], .int .i64 1]) (by simp [results, Tryz.results17, go_sem]) rfl ?_
    exact ⟨rfl, (Ext.refl w).alloc _⟩
set_option maxRecDepth 100000 in
set_option maxHeartbeats 2000000 in
theorem Audit38_out (n : Int) (w : World) (h : n < 1 ∨ 1024 < n) :
    Calls Tryz.prog 28 #[.int .i64 n] w fun e w' => e = .returned (.tuple #[.agg #[.slice none 0 0, .bool false, .slice none 0 0, .bool false, .slice none 0 0], .int .i64 1]) ∧ Ext w w' := by
  go_enter Tryz.func28, Tryz.ntmps28
  rcases h with h | h
  · go_wp2
    refine bodyPost_ret (v := .tuple #[.agg #[.slice none 0 0, .bool false, .slice none 0 0, .bool false, .slice none 0 0], .int .i64 1]) (by simp [results, Tryz.results28, go_sem]) rfl ?_
    exact ⟨rfl, (Ext.refl w).alloc _⟩
  · have h2 : ¬ n < 1 := by omega
    go_wp2
    refine bodyPost_ret (v := .tuple #[.agg #[.slice none 0 0, .bool false, .slice none 0 0, .bool false, .slice none 0 0], .int .i64 1]) (by simp [results, Tryz.results28, go_sem]) rfl ?_
    exact ⟨rfl, (Ext.refl w).alloc _⟩

end Go.Proofs.YtekipapkcgoieaaGreatDoor

/- R38.Known. -/
namespace Go.Proofs.YtekipapkcgoieaaGreatDoor
open Go.RowKit
attribute [local go_sem ↓] Go.wp_at_zero Go.wp_at_succ
attribute [local go_sem ↓] load_entry store_entry

/-- What a part stands for, if it is known. -/
def partVal (b : Option HeldD) (p : PartD) : Option Rat :=
  match b with
  | none => none
  | some h => if 0 ≤ p.at_ ∧ p.at_ < h.vals.length then some (if p.is then (if h.vals[p.at_.toNat]?.getD 0 = p.v then p.c else 0) else p.c * ((h.vals[p.at_.toNat]?.getD 0 : Int) : Rat)) else none
def RKnown (w : World) (o : Option Rat) (e : Ending) (w' : World) : Prop := ∃ (s : Bool) (A : Option Addr) (n c : Nat) (s' : Bool) (A' : Option Addr) (n' c' : Nat),
  e = .returned (.tuple #[.agg #[.bool s, .slice A n c, .bool s', .slice A' n' c'], .bool o.isSome]) ∧ IsRat w' (.bool s) (.slice A n c) (.bool s') (.slice A' n' c') (o.getD 0) ∧ Ext w w'
structure PartOk (p : PartD) : Prop where
  num : p.c.num.natAbs ≤ 1000000
  den : p.c.den ≤ 1000
  val : p.v.natAbs ≤ 1000000000
def HeldOk (h : HeldD) : Prop := h.vals.length ≤ 100000 ∧ h.hyps.length ≤ 100000000 ∧ ∀ v ∈ h.vals, v.natAbs ≤ 1000000000
theorem bestStep_or (g : List Int) (b : Option HeldD) (y : HeldD) : bestStep g b y = some y ∨ bestStep g b y = b := by
  unfold bestStep
  cases b <;> (dsimp only; split <;> first | exact .inl rfl | exact .inr rfl)
theorem bestOf_mem {g : List Int} {l : List HeldD} {x : HeldD} (h : bestOf g l = some x) : x ∈ l := by
  have key : ∀ (l : List HeldD) (b : Option HeldD), (l.foldl (bestStep g) b) = some x → b = some x ∨ x ∈ l := by
    intro l
    induction l with
    | nil => intro b hb; exact .inl hb
    | cons y l ih =>
      intro b hb
      rcases ih _ hb with h1 | h1
      · have hs2 := bestStep_or g b y
        rcases hs2 with h2 | h2
        · rw [h2] at h1
          injection h1 with h1
          exact .inr (by rw [h1]; exact List.mem_cons_self ..)
        · exact .inl (h2.symm.trans h1)
      · exact .inr (List.mem_cons_of_mem _ h1)
  rcases key l none h with h1 | h1
  · cases h1
  · exact h1
theorem best_mem {hs : List HeldD} {nm : List UInt8} {g : List Int} {x : HeldD} (h : best hs nm g = some x) : x ∈ hs := (List.mem_filter.1 (bestOf_mem h)).1

end Go.Proofs.YtekipapkcgoieaaGreatDoor
