/-
  The reference's integers: products.
  The reference's sizes: quotients of two words.
-/
import Derived.Test.YtekipapkcgoieaaGreatDoorJ04
import Derived.BigQuiet
import Derived.Test.YtekipapkcgoieaaGreatDoorJ01
import Derived.Test.YtekipapkcgoieaaGreatDoorJ02
import Derived.BigRegion
import Derived.Deep.Light
import Derived.Deep.RegionHeld3
import Derived.Deep.DrawnRows
set_option linter.unusedVariables false
set_option linter.unusedSimpArgs false

/- The reference's integers: products. -/
namespace Go.Proofs.YtekipapkcgoieaaGreatDoor
open Go.RowKit
attribute [local go_sem ↓] Go.wp_at_zero Go.wp_at_succ

set_option maxRecDepth 100000 in
set_option maxHeartbeats 1000000 in
theorem iMul1_any (b1 v1 b2 v2 : Value) (x0 y0 : Int) (w : World) (hx0 : (wordsOf x0.natAbs).length ≤ 1000000) (hy0 : (wordsOf y0.natAbs).length ≤ 1000000) (h1 : IsInt w b1 v1 x0) (h2 : IsInt w b2 v2 y0) :
    Calls Tryz.prog 43 #[.agg #[b1, v1], .agg #[b2, v2]] w (RInt w (x0 * y0)) := by
  obtain ⟨s, A, n, c, rfl, rfl, hs, hn, hN⟩ := h1.form
  obtain ⟨s', A', n', c', rfl, rfl, hs', hn', hN'⟩ := h2.form
  obtain ⟨a, hae⟩ : ∃ a, a = wordsOf x0.natAbs := ⟨_, rfl⟩
  obtain ⟨b, hbe⟩ : ∃ b, b = wordsOf y0.natAbs := ⟨_, rfl⟩
  have hHF : signed (s != s') (nv a * nv b) = x0 * y0 := by rw [hae, hbe, nv_wordsOf, nv_wordsOf, hs, hs']; exact signed_mul x0 y0
  have ha : W32 a := by rw [hae]; exact wordsOf_w32 _
  have hb : W32 b := by rw [hbe]; exact wordsOf_w32 _
  have h5 : Words w (.slice A n c) a := by rw [hae]; exact hN
  have h6 : Words w (.slice A' n' c') b := by rw [hbe]; exact hN'
  rw [← hae] at hn hx0
  rw [← hbe] at hn' hy0
  subst hn hn'
  have HFF := Lib.hid hHF
  have HA := Lib.hid h5
  have HB := Lib.hid h6
  clear h1 h2 hN hN' h5 h6 hHF hs hs' hae hbe
  obtain ⟨M, hM, hM2⟩ : ∃ M : Nat, (a.length : Int) + (b.length : Int) = (M : Int) ∧ M ≤ 1000000000 := ⟨a.length + b.length, by omega, by omega⟩
  have hmk := fun W => run_make_u32s1 W M hM2
  go_enter Tryz.func43, Tryz.ntmps43
  go_wp2_with fail
  obtain ⟨W, hW⟩ : ∃ W : World, W = ((w.alloc (.cells #[.bool s, .slice A a.length c] 37)).alloc (.cells #[.bool s', .slice A' b.length c'] 37)).alloc (.cells #[.bool false, .slice none 0 0] 37) := ⟨_, rfl⟩
  rw [← hW]
  have hE : Ext w W := by rw [hW]; exact (((Ext.refl w).alloc _).alloc _).alloc _
  have hB1 : Blk W (w.heap.size) 37 #[.bool s, .slice A a.length c] := by rw [hW]; exact ((Blk.newAt _ _ _ (by simp)).alloc _).alloc _
  have hB2 : Blk W (w.heap.size + 1) 37 #[.bool s', .slice A' b.length c'] := by rw [hW]; exact (Blk.newAt _ _ _ (by simp)).alloc _
  have hB3 : Blk W (w.heap.size + 1 + 1) 37 #[.bool false, .slice none 0 0] := by rw [hW]; exact Blk.newAt _ _ _ (by simp)
  have HWs := Lib.hid (show W.heap.size = w.heap.size + 1 + 1 + 1 by rw [hW]; simp)
  clear hW
  have HK : Hid (∀ w', Ext W w' → Ext w w' ∧ w'.cell? ⟨w.heap.size, 0, none⟩ = some (.bool s) ∧ w'.cell? ⟨w.heap.size, 1, none⟩ = some (.slice A a.length c) ∧ w'.cell? ⟨w.heap.size + 1, 0, none⟩ = some (.bool s') ∧ w'.cell? ⟨w.heap.size + 1, 1, none⟩ = some (.slice A' b.length c')) := fun w' h => ⟨hE.trans h, (hB1.ext h).cell 0, (hB1.ext h).cell 1, (hB2.ext h).cell 0, (hB2.ext h).cell 1⟩
  have HK2 : Hid (∀ w' w'', w'.grownBy w'' (some (w.heap.size + 1 + 1)) → Ext W w' → Ext w w'' ∧ w''.cell? ⟨w.heap.size, 0, none⟩ = some (.bool s) ∧ w''.cell? ⟨w.heap.size, 1, none⟩ = some (.slice A a.length c) ∧ w''.cell? ⟨w.heap.size + 1, 0, none⟩ = some (.bool s') ∧ w''.cell? ⟨w.heap.size + 1, 1, none⟩ = some (.slice A' b.length c')) := fun w' w'' hg h => ⟨(hE.trans h).grown hg (by intro k hk; injection hk with hk; omega), (hg.cell_far ⟨w.heap.size, 0, none⟩ (hB1.ext h).lt (by first | (simp; done) | (simp; omega))).trans ((hB1.ext h).cell 0), (hg.cell_far ⟨w.heap.size, 1, none⟩ (hB1.ext h).lt (by first | (simp; done) | (simp; omega))).trans ((hB1.ext h).cell 1), (hg.cell_far ⟨w.heap.size + 1, 0, none⟩ (hB2.ext h).lt (by first | (simp; done) | (simp; omega))).trans ((hB2.ext h).cell 0), (hg.cell_far ⟨w.heap.size + 1, 1, none⟩ (hB2.ext h).lt (by first | (simp; done) | (simp; omega))).trans ((hB2.ext h).cell 1)⟩
  have hMn := Lib.hid (by omega : a.length + b.length = M)
  clear hM
  have hZ : W.heap.size ≤ w.heap.size + 1 + 1 + 1 := by have := HWs.out; omega
  have hE0 := hE
  have H1 := Lib.hid (HA.out.ext hE)
  have H2 := Lib.hid (HB.out.ext hE)
  clear HA HB
  go_loopw [6] (fun i wr => ∃ (k : Nat) (L : List Nat), k ≤ a.length ∧ i = .int .i64 (k : Int) ∧
      Hid (Blk wr (w.heap.size + 1 + 1 + 1) 123 (u32s L)) ∧ Hid (L.length = M ∧ W32 L ∧ (∀ j, k + b.length ≤ j → L[j]?.getD 0 = 0) ∧ nv L = nv (a.take k) * nv b) ∧ Ext W wr) (fun i _ => a.length - (intOf i).toNat)
  case atStart => exact ⟨0, List.replicate M 0, Nat.zero_le _, rfl, Blk.newAt W _ _ HWs.out, ⟨by simp, (fun y hy => by rw [List.eq_of_mem_replicate hy]; omega), (fun j _ => getD_replicate0 _ _), by simp [nv, nv_replicate]⟩, (Ext.refl W).alloc _⟩
  case round =>
    obtain ⟨i, L, hi, rfl, hBl, hI, hE⟩ := hrel
    by_cases hlt : i < a.length
    · obtain ⟨x, hx⟩ : ∃ x, x = a[i]?.getD 0 := ⟨_, rfl⟩
      have g1 := cast_get ha i
      obtain ⟨ab, ao, rfl, hcx⟩ := H1.out.word hE i hlt
      rw [← hx] at g1 hcx
      have HX := Lib.hid hx
      clear hx
      have q0 := HK.out wr hE
      go_wp2
      clear q0
      obtain ⟨wo, hwo⟩ : ∃ wo : World, wo = wr := ⟨_, rfl⟩
      subst hwo
      go_loopw [7, 8] (fun cy t wr => ∃ (k : Nat) (L : List Nat) (c : Nat), k ≤ b.length ∧ t = .int .i64 (k : Int) ∧ cy = .int .u64 (c : Int) ∧ c ≤ 4294967295 ∧
        Hid (Blk wr (w.heap.size + 1 + 1 + 1) 123 (u32s L)) ∧ Hid (L.length = M ∧ W32 L ∧ (∀ j, i + b.length ≤ j → L[j]?.getD 0 = 0) ∧ nv L + 4294967296 ^ (i + k) * c = nv (a.take i) * nv b + 4294967296 ^ i * (x * nv (b.take k))) ∧ Ext W wr) (fun _ t _ => b.length - (intOf t).toNat)
      case atStart => exact ⟨0, L, 0, Nat.zero_le _, rfl, rfl, by omega, hBl, ⟨hI.out.1, hI.out.2.1, hI.out.2.2.1, by rw [hI.out.2.2.2]; simp [nv]⟩, hE⟩
      case round =>
        obtain ⟨k, L2, cc, hk, rfl, rfl, hcc, hBl2, hI2, hE2⟩ := hrel
        by_cases hlt2 : k < b.length
        · obtain ⟨y, hy⟩ : ∃ y, y = b[k]?.getD 0 := ⟨_, rfl⟩
          obtain ⟨o, ho⟩ : ∃ o, o = L2[i + k]?.getD 0 := ⟨_, rfl⟩
          have g2 := cast_get hb k
          have g3 := cast_get hI2.out.2.1 (i + k)
          obtain ⟨bb, bo, rfl, hcy⟩ := H2.out.word hE2 k hlt2
          rw [← hy] at g2 hcy
          have hcx2 : wr.cell? ⟨ab, ao + i, none⟩ = some (.int .u32 (x : Int)) := by obtain ⟨ab', ao', e1, h⟩ := H1.out.word hE2 i hlt; cases e1; rw [HX.out]; exact h
          rw [← ho] at g3
          have hidx : i + k < M := by have := hMn.out; omega
          have hcell : wr.cell? ⟨w.heap.size + 1 + 1 + 1, i + k, none⟩ = some (.int .u32 (o : Int)) := by
            rw [hBl2.out.cell (i + k), ho]; exact u32s_get _ _ _ (by have := hI2.out.1; rw [List.getElem?_eq_getElem (by omega)]; rfl)
          have hfr := hBl2.out.frozen (i + k)
          have HY := Lib.hid hy
          have HO := Lib.hid ho
          clear hy ho
          have hfits := mul_fits (x := x) (y := y) (o := o) (c := cc) (by omega) (by omega) (by omega) (by omega)
          obtain ⟨p, hp, hpn⟩ : ∃ p : Nat, (x : Int) * (y : Int) = (p : Int) ∧ p = x * y := ⟨x * y, by push_cast; rfl, rfl⟩
          rw [← hpn] at hfits
          have HP := Lib.hid hpn
          clear hpn
          have fin : ∀ w2, Blk w2 (w.heap.size + 1 + 1 + 1) 123 ((u32s L2).setIfInBounds (i + k) (.int .u32 (((cc : Int) + ((p : Int) + o)) % 4294967296))) → Ext W w2 →
              ∃ (k' : Nat) (L' : List Nat) (c' : Nat), k' ≤ b.length ∧ (k : Int) + 1 = (k' : Int) ∧ ((cc : Int) + ((p : Int) + o)) / 4294967296 = (c' : Int) ∧ c' ≤ 4294967295 ∧
                Hid (Blk w2 (w.heap.size + 1 + 1 + 1) 123 (u32s L')) ∧ Hid (L'.length = M ∧ W32 L' ∧ (∀ j, i + b.length ≤ j → L'[j]?.getD 0 = 0) ∧ nv L' + 4294967296 ^ (i + k') * c' = nv (a.take i) * nv b + 4294967296 ^ i * (x * nv (b.take k'))) ∧ Ext W w2 ∧ b.length - k' < b.length - k := by
            intro w2 h2 h3
            obtain ⟨e1, e2, e3, e4⟩ := hI2.out
            refine ⟨k + 1, L2.set (i + k) ((cc + (p + o)) % 4294967296), (cc + (p + o)) / 4294967296, by omega, by omega, by omega, by omega, ?_, ⟨by simpa using e1, e2.set _ _ (by omega), fun j hj => ?_, ?_⟩, h3, by omega⟩
            · show Blk _ _ _ _
              rw [← u32s_set]
              exact h2
            · rw [getD_set_other _ _ _ _ (by omega)]; exact e3 j hj
            · rw [show cc + (p + o) = p + o + cc from by omega, nv_take_succ, HP.out, HO.out, ← HY.out]
              exact mul_step (by omega) e4
          have HF := Lib.hid fin
          clear fin
          have q1 := HK.out wr hE2
          go_wp2
          go_quiet (fail)
          go_wp2
          clear q1
          obtain ⟨k', L', c', f1, f2, f3, f4, f5, f6, f7, f8⟩ := HF.out _ ((hBl2.out.drewN nq).set_ (i + k) _) ((hE2.drewN nq).setCell (p := ⟨w.heap.size + 1 + 1 + 1, i + k, none⟩) hZ _)
          go_roundw
          case rel => exact ⟨k', L', c', f1, by rw [← f2], by rw [← f3], f4, f5, f6, f7⟩
          case measure => (simp [intOf] <;> omega)
        · have hkb : k = b.length := by omega
          subst hkb
          have hidx : i + b.length < M := by have := hMn.out; omega
          have hcell : wr.cell? ⟨w.heap.size + 1 + 1 + 1, i + b.length, none⟩ = some (.int .u32 0) := by
            rw [hBl2.out.cell (i + b.length)]
            have h0 := hI2.out.2.2.1 (i + b.length) (Nat.le_refl _)
            have := u32s_get L2 (i + b.length) 0 (by have := hI2.out.1; rw [List.getElem?_eq_getElem (by omega)] at h0 ⊢; simpa using h0)
            exact this
          have hfr := hBl2.out.frozen (i + b.length)
          have fin : ∀ w2, Blk w2 (w.heap.size + 1 + 1 + 1) 123 ((u32s L2).setIfInBounds (i + b.length) (.int .u32 (cc : Int))) → Ext W w2 →
              ∃ (k' : Nat) (L' : List Nat), k' ≤ a.length ∧ (i : Int) + 1 = (k' : Int) ∧
                Hid (Blk w2 (w.heap.size + 1 + 1 + 1) 123 (u32s L')) ∧ Hid (L'.length = M ∧ W32 L' ∧ (∀ j, k' + b.length ≤ j → L'[j]?.getD 0 = 0) ∧ nv L' = nv (a.take k') * nv b) ∧ Ext W w2 ∧ a.length - k' < a.length - i := by
            intro w2 h2 h3
            obtain ⟨e1, e2, e3, e4⟩ := hI2.out
            refine ⟨i + 1, L2.set (i + b.length) cc, by omega, by omega, ?_, ⟨by simpa using e1, e2.set _ _ (by omega), fun j hj => ?_, ?_⟩, h3, by omega⟩
            · show Blk _ _ _ _
              rw [← u32s_set]
              exact h2
            · rw [getD_set_other _ _ _ _ (by omega)]; exact e3 j (by omega)
            · rw [nv_take_all b _ (Nat.le_refl _)] at e4
              rw [nv_take_succ, ← HX.out]
              exact mul_close (by omega) (e3 _ (Nat.le_refl _)) e4
          have HF := Lib.hid fin
          clear fin
          have q1 := HK.out wr hE2
          go_wp2
          clear q1
          obtain ⟨k', L', f1, f2, f5, f6, f7, f8⟩ := HF.out _ (hBl2.out.set_ (i + b.length) _) (hE2.setCell (p := ⟨w.heap.size + 1 + 1 + 1, i + b.length, none⟩) hZ _)
          go_roundw
          case rel => exact ⟨k', L', f1, by rw [← f2], f5, f6, f7⟩
          case measure => (simp [intOf] <;> omega)
    · have q0 := HK.out wr hE
      go_wp2_with fail
      clear q0
      have hkM : i = a.length := by omega
      subst hkM
      obtain ⟨e1, e2, e3, e4⟩ := hI.out
      rw [nv_take_all _ _ (Nat.le_refl _)] at e4
      have E4 := Lib.hid e4
      clear e4
      have hW : Words wr (.slice (some ⟨w.heap.size + 1 + 1 + 1, 0, none⟩) M M) L := by
        have := Words.of_blk (k := M) (c := M) hBl.out (by omega) (Nat.le_refl _)
        rwa [List.take_of_length_le (by omega)] at this
      refine (made_any _ _ L _ e2 (by omega) hW).mono ?_
      rintro e w3 ⟨s3, A3, n3, c3, rfl, hm3, he3⟩
      have hEE : Ext W w3 := hE.trans he3
      have hq3 := (hB3.ext hEE).two
      go_wp2
      refine bodyPost_ret (v := .agg #[.bool s3, .slice A3 n3 c3]) (by simp [results, Tryz.results43, go_sem, hq3]) rfl ?_
      rw [E4.out, show (!s == s') = (s != s') from rfl, HFF.out] at hm3
      exact RInt.close hE0 hEE hB3 (by omega) hm3

end Go.Proofs.YtekipapkcgoieaaGreatDoor

/- The reference's sizes: quotients of two words. -/
namespace Go.Proofs.YtekipapkcgoieaaGreatDoor
open Go.RowKit
attribute [local go_sem ↓] Go.wp_at_zero Go.wp_at_succ

theorem two_words (l : List Nat) (h : l.length ≤ 2) : nv l = l[0]?.getD 0 + 4294967296 * l[1]?.getD 0 := by
  match l, h with
  | [], _ => rfl
  | [x], _ => simp [nv]
  | [x, y], _ => simp [nv]
theorem halves_or2 (lo hi : Int) (hx0 : 0 ≤ hi) (hx : hi ≤ 4294967295) (hy0 : 0 ≤ lo) (hy : lo ≤ 4294967295) : bits .or .u64 lo (hi * 4294967296) = hi * 4294967296 + lo := by
  obtain ⟨hi, rfl⟩ := Int.eq_ofNat_of_zero_le hx0
  obtain ⟨lo, rfl⟩ := Int.eq_ofNat_of_zero_le hy0
  have e : ((hi : Int) * 4294967296) = ((hi * 4294967296 : Nat) : Int) := by omega
  rw [e, u64_or_nat _ _ (by omega) (by omega)]
  have := Nat.two_pow_add_eq_or_of_lt (i := 32) (b := lo) (by omega) hi
  have e2 : (lo ||| hi * 4294967296) = hi * 4294967296 + lo := by rw [Nat.or_comm, Nat.mul_comm hi]; exact this.symm
  rw [e2]; omega

def RDv (w : World) (q r : Nat) (e : Ending) (w' : World) : Prop :=
  ∃ A B : Option Addr, e = .returned (.agg #[.slice A 2 2, .slice B 2 2]) ∧ Words w' (.slice A 2 2) [q % 4294967296, q / 4294967296] ∧ Words w' (.slice B 2 2) [r % 4294967296, r / 4294967296] ∧ Ext w w'

theorem two_blk {w : World} {g q : Nat} (hq : q ≤ 18446744073709551615) (h : Blk w g 123 #[.int .u32 ((q : Int) % 4294967296), .int .u32 ((q : Int) / 4294967296 % 4294967296)]) : Words w (.slice (some ⟨g, 0, none⟩) 2 2) [q % 4294967296, q / 4294967296] := by
  have e : #[Value.int .u32 ((q : Int) % 4294967296), Value.int .u32 ((q : Int) / 4294967296 % 4294967296)] = u32s [q % 4294967296, q / 4294967296] := by
    simp only [u32s, List.map]
    rw [show (q : Int) / 4294967296 % 4294967296 = ((q / 4294967296 : Nat) : Int) by omega, show (q : Int) % 4294967296 = ((q % 4294967296 : Nat) : Int) by omega]
  rw [e] at h
  exact Words.of_blk h (Nat.le_refl _) (Nat.le_refl _)

set_option maxRecDepth 100000 in
set_option maxHeartbeats 2000000 in
theorem divide_any (v u : Value) (a b : List Nat) (w : World) (ha : W32 a) (hb : W32 b) (hal : a.length ≤ 2) (hbl : b.length ≤ 2) (hb0 : 0 < nv b) (h1 : Words w v a) (h2 : Words w u b) :
    Calls Tryz.prog 199 #[v, u] w (RDv w (nv a / nv b) (nv a % nv b)) := by
  have e1 := two_words a hal
  have e2 := two_words b hbl
  have g1 := cast_get ha 0
  have g2 := cast_get ha 1
  have g3 := cast_get hb 0
  have g4 := cast_get hb 1
  obtain ⟨A, c, rfl⟩ := h1.shape
  obtain ⟨B, d, rfl⟩ := h2.shape
  have c1 : ∀ w', Ext w w' → Calls Tryz.prog 67 #[.slice A a.length c, .int .i64 0] w' fun e w'' => e = .returned (.int .u64 ((a[0]?.getD 0 : Nat) : Int)) ∧ w' = w'' := fun w' h => word_any _ a 0 w' ha (by omega) (h1.ext h)
  have c2 : ∀ w', Ext w w' → Calls Tryz.prog 67 #[.slice A a.length c, .int .i64 1] w' fun e w'' => e = .returned (.int .u64 ((a[1]?.getD 0 : Nat) : Int)) ∧ w' = w'' := fun w' h => word_any _ a 1 w' ha (by omega) (h1.ext h)
  have c3 : ∀ w', Ext w w' → Calls Tryz.prog 67 #[.slice B b.length d, .int .i64 0] w' fun e w'' => e = .returned (.int .u64 ((b[0]?.getD 0 : Nat) : Int)) ∧ w' = w'' := fun w' h => word_any _ b 0 w' hb (by omega) (h2.ext h)
  have c4 : ∀ w', Ext w w' → Calls Tryz.prog 67 #[.slice B b.length d, .int .i64 1] w' fun e w'' => e = .returned (.int .u64 ((b[1]?.getD 0 : Nat) : Int)) ∧ w' = w'' := fun w' h => word_any _ b 1 w' hb (by omega) (h2.ext h)
  generalize a[0]?.getD 0 = x0 at *
  generalize a[1]?.getD 0 = x1 at *
  generalize b[0]?.getD 0 = y0 at *
  generalize b[1]?.getD 0 = y1 at *
  have C1 := Lib.hid c1
  have C2 := Lib.hid c2
  have C3 := Lib.hid c3
  have C4 := Lib.hid c4
  obtain ⟨x, hx, hxn⟩ : ∃ x : Nat, (x1 : Int) * 4294967296 + (x0 : Int) = (x : Int) ∧ nv a = x := ⟨x1 * 4294967296 + x0, by omega, by omega⟩
  obtain ⟨y, hy, hyn⟩ : ∃ y : Nat, (y1 : Int) * 4294967296 + (y0 : Int) = (y : Int) ∧ nv b = y := ⟨y1 * 4294967296 + y0, by omega, by omega⟩
  rw [hyn] at hb0 ⊢
  rw [hxn]
  have hyz : ((y : Int) == 0) = false := by rw [beq_eq_false_iff_ne]; omega
  have o1 := halves_or2 (x0 : Int) (x1 : Int) (by omega) (by omega) (by omega) (by omega)
  have o2 := halves_or2 (y0 : Int) (y1 : Int) (by omega) (by omega) (by omega) (by omega)
  rw [hx] at o1
  rw [hy] at o2
  have hxb := Lib.hid (show x ≤ 18446744073709551615 by omega)
  have hyb := Lib.hid (show y ≤ 18446744073709551615 by omega)
  have q1 : x / y ≤ 18446744073709551615 := Nat.le_trans (Nat.div_le_self x y) hxb.out
  have q2 : x % y ≤ 18446744073709551615 := Nat.le_trans (Nat.mod_le x y) hxb.out
  have q3 : IntKind.u64.wrap ((x : Int) / (y : Int)) = ((x / y : Nat) : Int) := by
    rw [IntKind.wrap_u64, ← Int.natCast_ediv]; clear o1 o2; generalize x / y = q at *; omega
  have q4 : (x : Int) % (y : Int) = ((x % y : Nat) : Int) := (Int.natCast_emod x y).symm
  generalize x / y = q at *
  generalize x % y = r at *
  have HQ := Lib.hid q1
  have HR := Lib.hid q2
  clear q1 q2
  clear c1 c2 c3 c4 e1 e2 h1 h2 ha hb hx hy hxn hyn
  go_enter Tryz.func199, Tryz.ntmps199
  go_wp2_with fail
  refine (C1.out _ (by (repeat (first | with_reducible assumption | with_reducible exact Ext.refl _ | with_reducible refine Ext.drew ?_ | with_reducible refine Ext.drewN ?_ _ | with_reducible refine Ext.alloc ?_ _ | with_reducible refine Ext.set2 ?_ (by omega) _ _ | with_reducible refine Ext.setCell ?_ (by first | omega | (simp; done) | (simp; omega)) _ | with_reducible refine Ext.trans ?_ (by with_reducible assumption))))).mono ?_
  rintro e w' ⟨rfl, rfl⟩
  go_wp2_with fail
  refine (C2.out _ (by (repeat (first | with_reducible assumption | with_reducible exact Ext.refl _ | with_reducible refine Ext.drew ?_ | with_reducible refine Ext.drewN ?_ _ | with_reducible refine Ext.alloc ?_ _ | with_reducible refine Ext.set2 ?_ (by omega) _ _ | with_reducible refine Ext.setCell ?_ (by first | omega | (simp; done) | (simp; omega)) _ | with_reducible refine Ext.trans ?_ (by with_reducible assumption))))).mono ?_
  rintro e w' ⟨rfl, rfl⟩
  go_wp2_with fail
  refine (C3.out _ (by (repeat (first | with_reducible assumption | with_reducible exact Ext.refl _ | with_reducible refine Ext.drew ?_ | with_reducible refine Ext.drewN ?_ _ | with_reducible refine Ext.alloc ?_ _ | with_reducible refine Ext.set2 ?_ (by omega) _ _ | with_reducible refine Ext.setCell ?_ (by first | omega | (simp; done) | (simp; omega)) _ | with_reducible refine Ext.trans ?_ (by with_reducible assumption))))).mono ?_
  rintro e w' ⟨rfl, rfl⟩
  go_wp2_with fail
  refine (C4.out _ (by (repeat (first | with_reducible assumption | with_reducible exact Ext.refl _ | with_reducible refine Ext.drew ?_ | with_reducible refine Ext.drewN ?_ _ | with_reducible refine Ext.alloc ?_ _ | with_reducible refine Ext.set2 ?_ (by omega) _ _ | with_reducible refine Ext.setCell ?_ (by first | omega | (simp; done) | (simp; omega)) _ | with_reducible refine Ext.trans ?_ (by with_reducible assumption))))).mono ?_
  rintro e w' ⟨rfl, rfl⟩
  go_wp2_with fail
  go_region
  · go_wp2
    refine bodyPost_ret (v := .agg #[.slice (some ⟨w.heap.size + 1, 0, none⟩) 2 2, .slice (some ⟨w.heap.size + 1 + 1, 0, none⟩) 2 2]) (by simp [results, Tryz.results199, go_sem]) rfl ?_
    exact ⟨_, _, rfl, two_blk HQ.out (((Blk.newAt _ _ _ (by simp)).alloc _).drew), two_blk HR.out ((Blk.newAt _ _ _ (by simp)).drew), ((((Ext.refl w).alloc _).alloc _).alloc _).drew⟩
  · go_wp2
    refine bodyPost_ret (v := .agg #[.slice (some ⟨w.heap.size + 1 + 1, 0, none⟩) 2 2, .slice (some ⟨w.heap.size + 1, 0, none⟩) 2 2]) (by simp [results, Tryz.results199, go_sem]) rfl ?_
    exact ⟨_, _, rfl, two_blk HQ.out ((Blk.newAt _ _ _ (by simp)).drew), two_blk HR.out (((Blk.newAt _ _ _ (by simp)).alloc _).drew), ((((Ext.refl w).alloc _).alloc _).alloc _).drew⟩

end Go.Proofs.YtekipapkcgoieaaGreatDoor
