/-
  The program's sizes: differences.
  The program's sizes: products.
  The program's sizes: quotients by one word; quotients where the divisor is one word or the greater number.
  The program's integers: negation, signs, comparison, sums, products.
  The program's integers: comparison, sums, differences.
-/
import Derived.Test.YtekipapkcgoieaaGreatDoorJ01
import Derived.Deep.RegionHeld3
import Derived.Deep.DrawnRows
set_option linter.unusedVariables false
set_option linter.unusedSimpArgs false

/- The program's sizes: differences. -/
namespace Go.Proofs.YtekipapkcgoieaaGreatDoor
open Go.RowKit

set_option maxRecDepth 100000 in
set_option maxHeartbeats 1000000 in
theorem nsub_any (v u : Value) (a b : List Nat) (w : World) (ha : W32 a) (hb : W32 b) (hal : a.length ≤ 100000000) (hbl : b.length ≤ 100000000) (hle : b.length ≤ a.length) (hge : nv b ≤ nv a) (h1 : Words w v a) (h2 : Words w u b) :
    Calls Tryz.prog 113 #[v, u] w (RNat w (nv a - nv b)) := by
  obtain ⟨A, c, rfl⟩ := h1.shape
  obtain ⟨B, d, rfl⟩ := h2.shape
  have H1 := Lib.hid h1
  have H2 := Lib.hid h2
  clear h1 h2
  obtain ⟨M, hM, hM2⟩ : ∃ M : Nat, (a.length : Int) = (M : Int) ∧ M ≤ 1000000000 := ⟨a.length, rfl, by omega⟩
  have hmk := fun W => run_make_nat W M hM2
  go_enter Tryz.func113, Tryz.ntmps113
  go_wp2_with (with_reducible refine stop_at 14 ?_)
  refine wpList_copy_splice rfl (.tmp 12) (.tmp 13) _ _ rfl 123 Tryz.underlying167 (by kernel_rfl) (some ⟨w.heap.size, 0, none⟩) A M M a.length c rfl rfl w.heap.size 0
    ((List.replicate M 0).map fun x : Nat => Value.int .u32 (x : Int)) 123 (heap_alloc_new w _) (a.map fun x : Nat => Value.int .u32 (x : Int)) (by simp; exact (Nat.min_eq_left (by omega)).symm) (fun h => ⟨rfl, H1.out.src ((Ext.refl w).alloc _) (by simpa using h)⟩)
    (by simp; omega) (by simp [Value.oneCell']) w.heap.size w ((Below.refl _ w).alloc (Nat.le_refl _) _) (Nat.le_refl _) ?_
  intro w1 hB hb1
  have hB' : Blk w1 w.heap.size 123 (u32s a) := by
    have := hB.out
    rw [show (splice ((List.replicate M 0).map fun x : Nat => Value.int .u32 (x : Int)) 0 (a.map fun x : Nat => Value.int .u32 (x : Int))) = a.map fun x : Nat => Value.int .u32 (x : Int) from by
      simp [splice, show M - a.length = 0 from by omega]] at this
    exact this
  clear hB
  have hB := Lib.hid hB'
  clear hB'
  go_wp2
  go_loopw [6, 17] (fun cy i wr => ∃ (k : Nat) (L : List Nat) (c : Nat), k ≤ M ∧ i = .int .i64 (k : Int) ∧ cy = .int .u32 (c : Int) ∧ c ≤ 1 ∧
      Hid (Blk wr w.heap.size 123 (u32s L)) ∧ Hid (L.length = M ∧ W32 L ∧ (∀ j, k ≤ j → L[j]?.getD 0 = a[j]?.getD 0) ∧ nv (L.take k) + nv (b.take k) = nv (a.take k) + 4294967296 ^ k * c) ∧ Ext w wr) (fun _ i _ => M - (intOf i).toNat)
  case atStart => exact ⟨0, a, 0, Nat.zero_le _, rfl, rfl, by omega, hB, ⟨by omega, ha, (fun j _ => rfl), by simp [nv]⟩, hb1⟩
  case round =>
    obtain ⟨k, L, cc, hk, rfl, rfl, hcc, hBl, hI, hE⟩ := hrel
    by_cases hlt : k < M
    · obtain ⟨x, hx⟩ : ∃ x, x = L[k]?.getD 0 := ⟨_, rfl⟩
      obtain ⟨y, hy⟩ : ∃ y, y = b[k]?.getD 0 := ⟨_, rfl⟩
      have g1 := cast_get hI.out.2.1 k
      have g2 := cast_get hb k
      rw [← hx] at g1
      rw [← hy] at g2
      have hcell : wr.cell? ⟨w.heap.size, k, none⟩ = some (.int .u32 (x : Int)) := by
        rw [hBl.out.cell k, hx]; exact u32s_get _ _ _ (by have := hI.out.1; rw [List.getElem?_eq_getElem (by omega)]; rfl)
      have hfr := hBl.out.frozen k
      have HX := Lib.hid hx
      have HY := Lib.hid hy
      clear hx hy
      obtain ⟨cn, hcn, hcr⟩ : ∃ cn : Nat, cn ≤ 1 ∧ ((cn : Int) = if (x : Int) - y - cc < 0 then 1 else 0) := by
        by_cases h : (x : Int) - y - cc < 0
        · exact ⟨1, by omega, by rw [if_pos h]; rfl⟩
        · exact ⟨0, by omega, by rw [if_neg h]; rfl⟩
      have fin : ∀ w2, Blk w2 w.heap.size 123 ((u32s L).setIfInBounds k (.int .u32 (((x : Int) - y - cc) % 4294967296))) → Ext w w2 →
          ∃ (k' : Nat) (L' : List Nat) (c' : Nat), k' ≤ M ∧ ((k : Int) + 1) = (k' : Int) ∧ (cn : Int) = (c' : Int) ∧ c' ≤ 1 ∧
      Hid (Blk w2 w.heap.size 123 (u32s L')) ∧ Hid (L'.length = M ∧ W32 L' ∧ (∀ j, k' ≤ j → L'[j]?.getD 0 = a[j]?.getD 0) ∧ nv (L'.take k') + nv (b.take k') = nv (a.take k') + 4294967296 ^ k' * c') ∧ Ext w w2 := by
        intro w2 h2 h3
        obtain ⟨e1, e2, e3, e4⟩ := hI.out
        obtain ⟨d, hd⟩ : ∃ d : Nat, ((x : Int) - y - cc) % 4294967296 = (d : Int) := ⟨(((x : Int) - y - cc) % 4294967296).toNat, by omega⟩
        have hd2 : d + y + cc = x + 4294967296 * cn := by split at hcr <;> omega
        rw [hd] at h2
        refine ⟨k + 1, L.set k d, cn, by omega, by omega, rfl, hcn, ?_, ⟨by simpa using e1, e2.set k _ (by omega), fun j hj => ?_, ?_⟩, h3⟩
        · show Blk _ _ _ _
          rw [← u32s_set]
          exact h2
        · rw [getD_set_other _ _ _ _ (by omega)]; exact e3 j (by omega)
        · rw [take_set_succ _ _ _ (by omega), nv_snoc, nv_take_succ b, nv_take_succ a, List.length_take, Nat.min_eq_left (by omega), ← HY.out, show a[k]?.getD 0 = x from by rw [HX.out, e3 k (Nat.le_refl _)]]
          exact diff_step k e4 hd2
      have HF := Lib.hid fin
      clear fin
      have HR := Lib.hid hcr
      clear hcr
      by_cases hkb : k < b.length
      · obtain ⟨bb, bo, rfl, hcy⟩ := H2.out.word hE k hkb
        rw [← HY.out] at hcy
        go_wp2_with (go_at_call 140; refine (sub32_any _ _ _ (cn : Int) (by omega) (by omega) (by omega) (by omega) (by omega) (by omega) (by first | exact HR.out | (rw [Int.sub_zero]; exact HR.out)) _).mono ?_; rintro e w' ⟨rfl, rfl⟩)
        obtain ⟨k', L', c', f1, f2, f3, f4, f5, f6, f7⟩ := HF.out _ (hBl.out.set_ k _) (hE.setCell (p := ⟨w.heap.size, k, none⟩) (Nat.le_refl _) _)
        go_roundw
        case rel => exact ⟨k', L', c', f1, by rw [← f2], by rw [← f3], f4, f5, f6, f7⟩
        case measure => (simp [intOf] <;> omega)
      · have hy0 : y = 0 := by rw [HY.out, List.getElem?_eq_none (by omega)]; rfl
        have HF0 := HF.out
        rw [hy0] at HF0
        simp only [show ((0 : Nat) : Int) = 0 from rfl, Int.sub_zero] at HF0
        have HR0 := HR.out
        rw [hy0] at HR0
        simp only [show ((0 : Nat) : Int) = 0 from rfl, Int.sub_zero] at HR0
        have HR := Lib.hid HR0
        clear HR0
        have HF1 := Lib.hid HF0
        clear HF0 HF HY hy0 g2
        go_wp2_with (go_at_call 140; refine (sub32_any _ _ _ (cn : Int) (by omega) (by omega) (by omega) (by omega) (by omega) (by omega) (by first | exact HR.out | (rw [Int.sub_zero]; exact HR.out)) _).mono ?_; rintro e w' ⟨rfl, rfl⟩)
        obtain ⟨k', L', c', f1, f2, f3, f4, f5, f6, f7⟩ := HF1.out _ (hBl.out.set_ k _) (hE.setCell (p := ⟨w.heap.size, k, none⟩) (Nat.le_refl _) _)
        go_roundw
        case rel => exact ⟨k', L', c', f1, by rw [← f2], by rw [← f3], f4, f5, f6, f7⟩
        case measure => (simp [intOf] <;> omega)
    · go_wp2_with fail
      have hkM : k = M := by omega
      subst hkM
      obtain ⟨e1, e2, e3, e4⟩ := hI.out
      have e5 : nv L = nv a - nv b := by
        rw [nv_take_all _ _ (by omega), nv_take_all _ _ (by omega), nv_take_all _ _ (by omega)] at e4
        have h5 := nv_lt e2
        rw [e1] at h5
        rcases Nat.eq_zero_or_pos cc with h9 | h9
        · rw [h9] at e4; omega
        · have : cc = 1 := by omega
          rw [this] at e4; omega
      have hW : Words wr (.slice (some ⟨w.heap.size, 0, none⟩) k k) L := by
        have := Words.of_blk (k := k) (c := k) hBl.out (by omega) (Nat.le_refl _)
        rwa [List.take_of_length_le (by omega)] at this
      refine (trim_any _ L wr wr (Ext.refl _) e2 (by omega) hW).mono ?_
      rintro e w' ⟨A', n', c', rfl, hv, rfl⟩
      go_wp2
      go_ret
      exact ⟨_, _, _, rfl, by unfold IsNat; rw [← e5]; exact hv, hE⟩

end Go.Proofs.YtekipapkcgoieaaGreatDoor

/- The program's sizes: products. -/
namespace Go.Proofs.YtekipapkcgoieaaGreatDoor
open Go.RowKit

theorem getD_replicate0 (n j : Nat) : (List.replicate n 0)[j]?.getD 0 = 0 := by
  rw [List.getElem?_replicate]; split <;> rfl

set_option maxRecDepth 100000 in
set_option maxHeartbeats 1000000 in
theorem nmul_any (v u : Value) (a b : List Nat) (w : World) (ha : W32 a) (hb : W32 b) (hal : a.length ≤ 100000000) (hbl : b.length ≤ 100000000) (h1 : Words w v a) (h2 : Words w u b) :
    Calls Tryz.prog 114 #[v, u] w (RNat w (nv a * nv b)) := by
  obtain ⟨A, c, rfl⟩ := h1.shape
  obtain ⟨B, d, rfl⟩ := h2.shape
  have H1 := Lib.hid h1
  have H2 := Lib.hid h2
  clear h1 h2
  obtain ⟨M, hM, hM2⟩ : ∃ M : Nat, (a.length : Int) + (b.length : Int) = (M : Int) ∧ M ≤ 1000000000 := ⟨a.length + b.length, by omega, by omega⟩
  have hmk := fun W => run_make_nat W M hM2
  go_enter Tryz.func114, Tryz.ntmps114
  go_wp2
  have hMn := Lib.hid (by omega : a.length + b.length = M)
  clear hM
  go_loopw [20] (fun i wr => ∃ (k : Nat) (L : List Nat), k ≤ a.length ∧ i = .int .i64 (k : Int) ∧
      Hid (Blk wr w.heap.size 123 (u32s L)) ∧ Hid (L.length = M ∧ W32 L ∧ (∀ j, k + b.length ≤ j → L[j]?.getD 0 = 0) ∧ nv L = nv (a.take k) * nv b) ∧ Ext w wr) (fun i _ => a.length - (intOf i).toNat)
  case atStart => exact ⟨0, List.replicate M 0, Nat.zero_le _, rfl, Blk.newAt w _ _ rfl, ⟨by simp, (fun y hy => by rw [List.eq_of_mem_replicate hy]; omega), (fun j _ => getD_replicate0 _ _), by simp [nv, nv_replicate]⟩, (Ext.refl w).alloc _⟩
  case round =>
    obtain ⟨i, L, hi, rfl, hBl, hI, hE⟩ := hrel
    by_cases hlt : i < a.length
    · obtain ⟨x, hx⟩ : ∃ x, x = a[i]?.getD 0 := ⟨_, rfl⟩
      have g1 := cast_get ha i
      obtain ⟨ab, ao, rfl, hcx⟩ := H1.out.word hE i hlt
      rw [← hx] at g1 hcx
      have HX := Lib.hid hx
      clear hx
      go_wp2
      obtain ⟨wo, hwo⟩ : ∃ wo : World, wo = wr := ⟨_, rfl⟩
      subst hwo
      go_loopw [8, 27] (fun cy t wr => ∃ (k : Nat) (L : List Nat) (c : Nat), k ≤ b.length ∧ t = .int .i64 (k : Int) ∧ cy = .int .u64 (c : Int) ∧ c ≤ 4294967295 ∧
        Hid (Blk wr w.heap.size 123 (u32s L)) ∧ Hid (L.length = M ∧ W32 L ∧ (∀ j, i + b.length ≤ j → L[j]?.getD 0 = 0) ∧ nv L + 4294967296 ^ (i + k) * c = nv (a.take i) * nv b + 4294967296 ^ i * (x * nv (b.take k))) ∧ Ext w wr) (fun _ t _ => b.length - (intOf t).toNat)
      case atStart => exact ⟨0, L, 0, Nat.zero_le _, rfl, rfl, by omega, hBl, ⟨hI.out.1, hI.out.2.1, hI.out.2.2.1, by rw [hI.out.2.2.2]; simp [nv]⟩, hE⟩
      case round =>
        obtain ⟨k, L2, cc, hk, rfl, rfl, hcc, hBl2, hI2, hE2⟩ := hrel
        by_cases hlt2 : k < b.length
        · obtain ⟨y, hy⟩ : ∃ y, y = b[k]?.getD 0 := ⟨_, rfl⟩
          obtain ⟨o, ho⟩ : ∃ o, o = L2[i + k]?.getD 0 := ⟨_, rfl⟩
          have g2 := cast_get hb k
          have g3 := cast_get hI2.out.2.1 (i + k)
          obtain ⟨bb, bo, rfl, hcy⟩ := H2.out.word hE2 k hlt2
          rw [← hy] at g2 hcy
          rw [← ho] at g3
          have hidx : i + k < M := by have := hMn.out; omega
          have hcell : wr.cell? ⟨w.heap.size, i + k, none⟩ = some (.int .u32 (o : Int)) := by
            rw [hBl2.out.cell (i + k), ho]; exact u32s_get _ _ _ (by have := hI2.out.1; rw [List.getElem?_eq_getElem (by omega)]; rfl)
          have hfr := hBl2.out.frozen (i + k)
          have HY := Lib.hid hy
          have HO := Lib.hid ho
          clear hy ho
          have hfits := mul_fits (x := x) (y := y) (o := o) (c := cc) (by omega) (by omega) (by omega) (by omega)
          obtain ⟨p, hp, hpn⟩ : ∃ p : Nat, (x : Int) * (y : Int) = (p : Int) ∧ p = x * y := ⟨x * y, by push_cast; rfl, rfl⟩
          rw [← hpn] at hfits
          have HP := Lib.hid hpn
          clear hpn
          have fin : ∀ w2, Blk w2 w.heap.size 123 ((u32s L2).setIfInBounds (i + k) (.int .u32 (((p : Int) + o + cc) % 4294967296))) → Ext w w2 →
              ∃ (k' : Nat) (L' : List Nat) (c' : Nat), k' ≤ b.length ∧ (k : Int) + 1 = (k' : Int) ∧ ((p : Int) + o + cc) / 4294967296 = (c' : Int) ∧ c' ≤ 4294967295 ∧
                Hid (Blk w2 w.heap.size 123 (u32s L')) ∧ Hid (L'.length = M ∧ W32 L' ∧ (∀ j, i + b.length ≤ j → L'[j]?.getD 0 = 0) ∧ nv L' + 4294967296 ^ (i + k') * c' = nv (a.take i) * nv b + 4294967296 ^ i * (x * nv (b.take k'))) ∧ Ext w w2 ∧ b.length - k' < b.length - k := by
            intro w2 h2 h3
            obtain ⟨e1, e2, e3, e4⟩ := hI2.out
            refine ⟨k + 1, L2.set (i + k) ((p + o + cc) % 4294967296), (p + o + cc) / 4294967296, by omega, by omega, by omega, by omega, ?_, ⟨by simpa using e1, e2.set _ _ (by omega), fun j hj => ?_, ?_⟩, h3, by omega⟩
            · show Blk _ _ _ _
              rw [← u32s_set]
              exact h2
            · rw [getD_set_other _ _ _ _ (by omega)]; exact e3 j hj
            · rw [nv_take_succ, HP.out, HO.out, ← HY.out]
              exact mul_step (by omega) e4
          have HF := Lib.hid fin
          clear fin
          go_wp2
          obtain ⟨k', L', c', f1, f2, f3, f4, f5, f6, f7, f8⟩ := HF.out _ (hBl2.out.set_ (i + k) _) (hE2.setCell (p := ⟨w.heap.size, i + k, none⟩) (Nat.le_refl _) _)
          go_roundw
          case rel => exact ⟨k', L', c', f1, by rw [← f2], by rw [← f3], f4, f5, f6, f7⟩
          case measure => (simp [intOf] <;> omega)
        · have hkb : k = b.length := by omega
          subst hkb
          have hidx : i + b.length < M := by have := hMn.out; omega
          have hcell : wr.cell? ⟨w.heap.size, i + b.length, none⟩ = some (.int .u32 0) := by
            rw [hBl2.out.cell (i + b.length)]
            have h0 := hI2.out.2.2.1 (i + b.length) (Nat.le_refl _)
            have := u32s_get L2 (i + b.length) 0 (by have := hI2.out.1; rw [List.getElem?_eq_getElem (by omega)] at h0 ⊢; simpa using h0)
            exact this
          have hfr := hBl2.out.frozen (i + b.length)
          have fin : ∀ w2, Blk w2 w.heap.size 123 ((u32s L2).setIfInBounds (i + b.length) (.int .u32 (cc : Int))) → Ext w w2 →
              ∃ (k' : Nat) (L' : List Nat), k' ≤ a.length ∧ (i : Int) + 1 = (k' : Int) ∧
                Hid (Blk w2 w.heap.size 123 (u32s L')) ∧ Hid (L'.length = M ∧ W32 L' ∧ (∀ j, k' + b.length ≤ j → L'[j]?.getD 0 = 0) ∧ nv L' = nv (a.take k') * nv b) ∧ Ext w w2 ∧ a.length - k' < a.length - i := by
            intro w2 h2 h3
            obtain ⟨e1, e2, e3, e4⟩ := hI2.out
            refine ⟨i + 1, L2.set (i + b.length) cc, by omega, by omega, ?_, ⟨by simpa using e1, e2.set _ _ (by omega), fun j hj => ?_, ?_⟩, h3, by omega⟩
            · show Blk _ _ _ _
              rw [← u32s_set]
              exact h2
            · rw [getD_set_other _ _ _ _ (by omega)]; exact e3 j (by omega)
            · rw [nv_take_all b _ (Nat.le_refl _)] at e4
              rw [nv_take_succ, ← HX.out]
              exact mul_close (by omega) (e3 _ (Nat.le_refl _)) e4
          have HF := Lib.hid fin
          clear fin
          go_wp2
          obtain ⟨k', L', f1, f2, f5, f6, f7, f8⟩ := HF.out _ (hBl2.out.set_ (i + b.length) _) (hE2.setCell (p := ⟨w.heap.size, i + b.length, none⟩) (Nat.le_refl _) _)
          go_roundw
          case rel => exact ⟨k', L', f1, by rw [← f2], f5, f6, f7⟩
          case measure => (simp [intOf] <;> omega)
    · go_wp2_with fail
      have hkM : i = a.length := by omega
      subst hkM
      obtain ⟨e1, e2, e3, e4⟩ := hI.out
      rw [nv_take_all _ _ (Nat.le_refl _)] at e4
      have hW : Words wr (.slice (some ⟨w.heap.size, 0, none⟩) M M) L := by
        have := Words.of_blk (k := M) (c := M) hBl.out (by omega) (Nat.le_refl _)
        rwa [List.take_of_length_le (by omega)] at this
      refine (trim_any _ L wr wr (Ext.refl _) e2 (by omega) hW).mono ?_
      rintro e w' ⟨A', n', c', rfl, hv, rfl⟩
      go_wp2
      go_ret
      exact ⟨_, _, _, rfl, by unfold IsNat; rw [← e4]; exact hv, hE⟩

end Go.Proofs.YtekipapkcgoieaaGreatDoor

/- The program's sizes: quotients by one word; quotients where the divisor is one word or the greater number. -/
namespace Go.Proofs.YtekipapkcgoieaaGreatDoor
open Go.RowKit

def RDivW (w : World) (q r : Nat) (e : Ending) (w' : World) : Prop := ∃ (A : Option Addr) (n c : Nat), e = .returned (.tuple #[.slice A n c, .int .u32 (r : Int)]) ∧ IsNat w' (.slice A n c) q ∧ Ext w w'
def RDiv (w : World) (q r : Nat) (e : Ending) (w' : World) : Prop :=
  ∃ (A : Option Addr) (n c : Nat) (B : Option Addr) (m d : Nat), e = .returned (.tuple #[.slice A n c, .slice B m d]) ∧ IsNat w' (.slice A n c) q ∧ IsNat w' (.slice B m d) r ∧ Ext w w'

theorem drop_set_succ (l : List Nat) (i v : Nat) (h : i < l.length) : (l.set i v).drop i = v :: l.drop (i + 1) := by
  rw [List.drop_eq_getElem_cons (by simpa using h)]
  simp [List.drop_set]

set_option maxRecDepth 100000 in
set_option maxHeartbeats 1000000 in
theorem divWord_any (v : Value) (a : List Nat) (d : Nat) (w : World) (ha : W32 a) (hal : a.length ≤ 100000000) (hd0 : 0 < d) (hd : d ≤ 4294967295) (h1 : Words w v a) :
    Calls Tryz.prog 90 #[v, .int .u32 (d : Int)] w (RDivW w (nv a / d) (nv a % d)) := by
  obtain ⟨A, c, rfl⟩ := h1.shape
  have H1 := Lib.hid h1
  clear h1
  obtain ⟨M, hM, hM2⟩ : ∃ M : Nat, (a.length : Int) = (M : Int) ∧ M ≤ 1000000000 := ⟨a.length, rfl, by omega⟩
  have hmk := fun W => run_make_nat W M hM2
  go_enter Tryz.func90, Tryz.ntmps90
  go_wp2
  have hMn := Lib.hid (by omega : a.length = M)
  clear hM
  go_loopw [7, 8] (fun rr t wr => ∃ (i : Int) (L : List Nat) (r : Nat), -1 ≤ i ∧ i < (M : Int) ∧ t = .int .i64 i ∧ rr = .int .u32 (r : Int) ∧ r < d ∧
      Hid (Blk wr w.heap.size 123 (u32s L)) ∧ Hid (L.length = M ∧ W32 L ∧ ∃ k : Nat, (k : Int) = i + 1 ∧ nv (L.drop k) * d + r = nv (a.drop k)) ∧ Ext w wr) (fun _ t _ => (intOf t + 1).toNat)
  case atStart =>
    exact ⟨(M : Int) - 1, List.replicate M 0, 0, by omega, by omega, rfl, rfl, by omega, Blk.newAt w _ _ rfl, ⟨by simp, (fun y hy => by rw [List.eq_of_mem_replicate hy]; omega), M, by omega, by
      rw [List.drop_of_length_le (by simp), List.drop_of_length_le (by have := hMn.out; omega)]; simp [nv]⟩, (Ext.refl w).alloc _⟩
  case round =>
    obtain ⟨i, L, r, hi0, hi1, rfl, rfl, hr, hBl, hI, hE⟩ := hrel
    by_cases hk0 : 0 ≤ i
    · obtain ⟨k, rfl⟩ := Int.eq_ofNat_of_zero_le hk0
      obtain ⟨x, hx⟩ : ∃ x, x = a[k]?.getD 0 := ⟨_, rfl⟩
      have g1 := cast_get ha k
      have hka : k < a.length := by have := hMn.out; omega
      obtain ⟨ab, ao, rfl, hcx⟩ := H1.out.word hE k (by have := hMn.out; omega)
      rw [← hx] at g1 hcx
      have hcell : wr.cell? ⟨w.heap.size, k, none⟩ = some (.int .u32 ((L[k]?.getD 0 : Nat) : Int)) := by
        rw [hBl.out.cell k]; exact u32s_get _ _ _ (by have := hI.out.1; rw [List.getElem?_eq_getElem (by omega)]; rfl)
      generalize L[k]?.getD 0 = old at hcell
      have hfr := hBl.out.frozen k
      have HX := Lib.hid hx
      clear hx
      have fin : ∀ w2, Blk w2 w.heap.size 123 ((u32s L).setIfInBounds k (.int .u32 (((r : Int) * 4294967296 + x) / d))) → Ext w w2 →
          ∃ (i' : Int) (L' : List Nat) (r' : Nat), -1 ≤ i' ∧ i' < (M : Int) ∧ (k : Int) - 1 = i' ∧ ((r : Int) * 4294967296 + x) % d = (r' : Int) ∧ r' < d ∧
            Hid (Blk w2 w.heap.size 123 (u32s L')) ∧ Hid (L'.length = M ∧ W32 L' ∧ ∃ k : Nat, (k : Int) = i' + 1 ∧ nv (L'.drop k) * d + r' = nv (a.drop k)) ∧ Ext w w2 := by
        intro w2 h2 h3
        obtain ⟨e1, e2, k', e3, e4⟩ := hI.out
        obtain rfl : k' = k + 1 := by omega
        have hq : (r * 4294967296 + x) / d < 4294967296 := Nat.div_lt_of_lt_mul (by
          have : (r + 1) * 4294967296 ≤ d * 4294967296 := Nat.mul_le_mul_right _ hr
          omega)
        have hc1 : ((r : Int) * 4294967296 + x) / d = (((r * 4294967296 + x) / d : Nat) : Int) := by rw [Int.natCast_ediv, Int.natCast_add, Int.natCast_mul]; rfl
        have hc2 : ((r : Int) * 4294967296 + x) % d = (((r * 4294967296 + x) % d : Nat) : Int) := by rw [Int.natCast_emod, Int.natCast_add, Int.natCast_mul]; rfl
        rw [hc1] at h2
        refine ⟨(k : Int) - 1, L.set k ((r * 4294967296 + x) / d), (r * 4294967296 + x) % d, by omega, by omega, rfl, hc2, Nat.mod_lt _ hd0, ?_, ⟨by simpa using e1, e2.set k _ hq, k, by omega, ?_⟩, h3⟩
        · show Blk _ _ _ _
          rw [← u32s_set]
          exact h2
        · rw [drop_set_succ _ _ _ (by omega), nv_cons, nv_drop a k (by have := hMn.out; omega), ← HX.out]
          exact div_step hd0 e4
      have HF := Lib.hid fin
      clear fin
      go_wp2_with (go_at_call 123; refine (div32_any _ _ _ (by omega) (by omega) (by omega) (by omega) (by omega) _).mono ?_; rintro e w' ⟨rfl, nd, rfl⟩)
      obtain ⟨i', L', r', f1, f2, f3, f4, f5, f6, f7, f8⟩ := HF.out _ ((hBl.out.drewN nd).set_ k _) ((hE.drewN nd).setCell (p := ⟨w.heap.size, k, none⟩) (Nat.le_refl _) _)
      go_roundw
      case rel => exact ⟨i', L', r', f1, f2, by rw [← f3], by rw [← f4], f5, f6, f7, f8⟩
      case measure => (simp [intOf] <;> omega)
    · have hi : i = -1 := by omega
      subst hi
      obtain ⟨e1, e2, k', e3, e4⟩ := hI.out
      obtain rfl : k' = 0 := by omega
      simp only [List.drop_zero] at e4
      have E4 := Lib.hid e4
      clear e4
      go_wp2_with fail
      have hW : Words wr (.slice (some ⟨w.heap.size, 0, none⟩) M M) L := by
        have := Words.of_blk (k := M) (c := M) hBl.out (by omega) (Nat.le_refl _)
        rwa [List.take_of_length_le (by omega)] at this
      refine (trim_any _ L wr wr (Ext.refl _) e2 (by omega) hW).mono ?_
      rintro e w' ⟨A', n', c', rfl, hv, rfl⟩
      go_wp2
      go_ret2
      have hq : nv a / d = nv L := by rw [← E4.out, Nat.mul_comm, Nat.mul_add_div hd0, Nat.div_eq_of_lt hr]; rfl
      have hr2 : nv a % d = r := by rw [← E4.out, Nat.mul_comm, Nat.mul_add_mod, Nat.mod_eq_of_lt hr]
      exact ⟨_, _, _, by rw [hr2]; rfl, by unfold IsNat; rw [hq]; exact hv, hE⟩

theorem IsNat.len {w : World} {A : Option Addr} {n c m : Nat} (h : IsNat w (.slice A n c) m) : n = (wordsOf m).length := Words.len h

set_option maxRecDepth 100000 in
set_option maxHeartbeats 1000000 in
theorem ndiv_any (v u : Value) (a b : Nat) (w : World) (hal : (wordsOf a).length ≤ 100000000) (hbl : (wordsOf b).length ≤ 100000000) (hb0 : 0 < b) (hs : a < b ∨ b < 4294967296) (h1 : IsNat w v a) (h2 : IsNat w u b) :
    Calls Tryz.prog 174 #[v, u] w (RDiv w (a / b) (a % b)) := by
  obtain ⟨A, c, rfl⟩ := Words.shape h1
  obtain ⟨B, d, rfl⟩ := Words.shape h2
  have c1 : Calls Tryz.prog 112 #[.slice A (wordsOf a).length c, .slice B (wordsOf b).length d] w fun e w' => e = .returned (.int .i64 (icmp a b)) ∧ ∃ n, w' = w.drewN n := by
    have := ncmp_any _ _ (wordsOf a) (wordsOf b) w (wordsOf_canon a) (wordsOf_canon b) (by omega) (by omega) h1 h2
    rwa [nv_wordsOf, nv_wordsOf] at this
  by_cases hlt : a < b
  · rw [icmp_nat_lt hlt] at c1
    have C1 := Lib.hid c1
    clear c1
    have hq : a / b = 0 := Nat.div_eq_of_lt hlt
    have hr : a % b = a := Nat.mod_eq_of_lt hlt
    rw [hq, hr]
    clear hq hr
    go_enter Tryz.func174, Tryz.ntmps174
    go_wp2_with fail
    refine C1.out.mono ?_
    rintro e w' ⟨rfl, nd, rfl⟩
    go_wp2
    go_ret2
    exact ⟨_, _, _, _, _, _, rfl, Words.zero _, h1.ext ((Ext.refl w).drewN nd), (Ext.refl w).drewN nd⟩
  · have hb : b < 4294967296 := by omega
    have hge : icmp (a : Int) (b : Int) = 0 ∨ icmp (a : Int) (b : Int) = 1 := by
      by_cases h : a = b
      · exact .inl (icmp_nat_eq h)
      · exact .inr (icmp_nat_gt (by omega))
    have hge2 : ¬ icmp (a : Int) (b : Int) < 0 := by omega
    have hw := wordsOf_one hb0 hb
    have H2 := h2
    unfold IsNat at H2
    rw [hw] at H2
    obtain ⟨bb, bo, hB, hc⟩ := H2.word (Ext.refl w) 0 (by simp)
    subst hB
    have hl : (wordsOf b).length = 1 := by rw [hw]; rfl
    rw [hl] at c1 ⊢
    have C1 := Lib.hid c1
    have hc2 : w.cell? ⟨bb, bo, none⟩ = some (.int .u32 (b : Int)) := by simpa using hc
    have c2 := fun nd => divWord_any (.slice A (wordsOf a).length c) (wordsOf a) b (w.drewN nd) (wordsOf_w32 a) (by omega) hb0 (by omega) (Words.ext h1 ((Ext.refl w).drewN nd))
    simp only [nv_wordsOf] at c2
    have hm : a % b < 4294967296 := Nat.lt_trans (Nat.mod_lt _ hb0) hb
    generalize a % b = r at *
    have C2 := Lib.hid c2
    clear c1 c2 hc hge H2 hw hl h2
    go_enter Tryz.func174, Tryz.ntmps174
    go_wp2_with fail
    refine C1.out.mono ?_
    rintro e w' ⟨rfl, nd, rfl⟩
    go_wp2_with fail
    refine (C2.out _).mono ?_
    rintro e w' ⟨A2, n2, c2, rfl, hq, he⟩
    go_wp2_with fail
    refine (trim_any _ [r] _ _ (Ext.refl _) (W32.cons hm W32.nil) (by simp) (by
      have := Words.of_blk (k := 1) (c := 1) (l := [r]) (g := w'.heap.size) (w := w'.alloc (.cells (u32s [r]) 123)) (Blk.newAt _ _ _ rfl) (by simp) (Nat.le_refl _)
      exact this)).mono ?_
    rintro e w2 ⟨A3, n3, c3, rfl, hr, rfl⟩
    have hr2 : IsNat (w'.alloc (.cells (u32s [r]) 123)) (.slice A3 n3 c3) r := by
      have : nv [r] = r := by simp [nv]
      rw [this] at hr; exact hr
    have HR := Lib.hid hr2
    clear hr hr2
    go_wp2
    go_ret2
    exact ⟨_, _, _, _, _, _, rfl, hq.ext ((Ext.refl _).alloc _), HR.out, (((Ext.refl w).drewN nd).trans he).alloc _⟩

end Go.Proofs.YtekipapkcgoieaaGreatDoor

/- The program's integers: negation, signs, comparison, sums, products. -/
namespace Go.Proofs.YtekipapkcgoieaaGreatDoor
open Go.RowKit
attribute [local go_sem ↓] Go.wp_at_zero Go.wp_at_succ

theorem IsInt.form {w : World} {b v : Value} {z : Int} (h : IsInt w b v z) : ∃ (s : Bool) (A : Option Addr) (n c : Nat), b = .bool s ∧ v = .slice A n c ∧ s = decide (z < 0) ∧ n = (wordsOf z.natAbs).length ∧ IsNat w (.slice A n c) z.natAbs := by
  obtain ⟨A, c, e⟩ := Words.shape h.2
  exact ⟨_, A, _, c, h.1, e, rfl, rfl, by rw [← e]; exact h.2⟩

/-- The signs differ: the sign of a product. -/
theorem signed_mul (x y : Int) : signed (decide (x < 0) != decide (y < 0)) (x.natAbs * y.natAbs) = x * y := by
  have hx : x = x.natAbs ∨ x = -x.natAbs := Int.natAbs_eq x
  have hy : y = y.natAbs ∨ y = -y.natAbs := Int.natAbs_eq y
  unfold signed
  by_cases h1 : x < 0 <;> by_cases h2 : y < 0 <;> simp [h1, h2]
  · rw [show ((x.natAbs : Nat) : Int) = -x from by omega, show ((y.natAbs : Nat) : Int) = -y from by omega, Int.neg_mul_neg]
  · rw [show ((x.natAbs : Nat) : Int) = -x from by omega, show ((y.natAbs : Nat) : Int) = y from by omega, Int.neg_mul, Int.neg_neg]
  · rw [show ((x.natAbs : Nat) : Int) = x from by omega, show ((y.natAbs : Nat) : Int) = -y from by omega, Int.mul_neg, Int.neg_neg]
  · rw [show ((x.natAbs : Nat) : Int) = x from by omega, show ((y.natAbs : Nat) : Int) = y from by omega]

theorem mul_nat (v u : Value) (a b : Nat) (w : World) (hal : (wordsOf a).length ≤ 100000000) (hbl : (wordsOf b).length ≤ 100000000) (h1 : IsNat w v a) (h2 : IsNat w u b) :
    Calls Tryz.prog 114 #[v, u] w (RNat w (a * b)) := by
  have := nmul_any v u _ _ w (wordsOf_w32 a) (wordsOf_w32 b) hal hbl h1 h2
  rwa [nv_wordsOf, nv_wordsOf] at this
theorem add_nat (v u : Value) (a b : Nat) (w : World) (hal : (wordsOf a).length ≤ 100000000) (hbl : (wordsOf b).length ≤ 100000000) (h1 : IsNat w v a) (h2 : IsNat w u b) :
    Calls Tryz.prog 111 #[v, u] w (RNat w (a + b)) := by
  have := nadd_any v u _ _ w (wordsOf_w32 a) (wordsOf_w32 b) hal hbl h1 h2
  rwa [nv_wordsOf, nv_wordsOf] at this
theorem sub_nat (v u : Value) (a b : Nat) (w : World) (hal : (wordsOf a).length ≤ 100000000) (hle : b ≤ a) (h1 : IsNat w v a) (h2 : IsNat w u b) :
    Calls Tryz.prog 113 #[v, u] w (RNat w (a - b)) := by
  have hl := wordsOf_len_mono hle
  have := nsub_any v u _ _ w (wordsOf_w32 a) (wordsOf_w32 b) hal (by omega) hl (by rwa [nv_wordsOf, nv_wordsOf]) h1 h2
  rwa [nv_wordsOf, nv_wordsOf] at this
theorem cmp_nat (v u : Value) (a b : Nat) (w : World) (hal : (wordsOf a).length ≤ 100000000) (hbl : (wordsOf b).length ≤ 100000000) (h1 : IsNat w v a) (h2 : IsNat w u b) :
    Calls Tryz.prog 112 #[v, u] w fun e w' => e = .returned (.int .i64 (icmp a b)) ∧ ∃ n, w' = w.drewN n := by
  have := ncmp_any v u _ _ w (wordsOf_canon a) (wordsOf_canon b) (by omega) (by omega) h1 h2
  rwa [nv_wordsOf, nv_wordsOf] at this
theorem of_nat (neg : Bool) (v : Value) (m : Nat) (w : World) (hlen : (wordsOf m).length ≤ 1000000000) (h : IsNat w v m) :
    Calls Tryz.prog 95 #[.bool neg, v] w (RInt w (signed neg m)) := by
  have := of_any neg v _ w (wordsOf_w32 m) hlen h
  rwa [nv_wordsOf] at this
theorem made_nat (neg : Bool) (v : Value) (m : Nat) (w : World) (hlen : (wordsOf m).length ≤ 1000000000) (h : IsNat w v m) :
    Calls Tryz.prog 40 #[.bool neg, v] w (RInt w (signed neg m)) := by
  have := made_any neg v _ w (wordsOf_w32 m) hlen h
  rwa [nv_wordsOf] at this

theorem RInt.close {w W w3 : World} {s : Bool} {A : Option Addr} {n c R : Nat} {z : Int} {cs : Array Value} (hE : Ext w W) (hEE : Ext W w3) (hB : Blk W R 37 cs) (hR : w.heap.size ≤ R) (h : IsInt w3 (.bool s) (.slice A n c) z) :
    RInt w z (.returned (.agg #[.bool s, .slice A n c])) ((w3.setCell ⟨R, 0, none⟩ (.bool s)).setCell ⟨R, 1, none⟩ (.slice A n c)) :=
  ⟨_, _, _, _, rfl, (h.setCell (hB.ext hEE).type (by decide) _).setCell ((hB.ext hEE).type.setCell _ _) (by decide) _, ((hE.trans hEE).setCell hR _).setCell hR _⟩

theorem signed_self (z : Int) : signed (decide (z < 0)) z.natAbs = z := by
  unfold signed; by_cases h : z < 0 <;> simp [h] <;> omega
theorem signed_not (z : Int) : signed (!decide (z < 0)) z.natAbs = -z := by
  unfold signed; by_cases h : z < 0 <;> simp [h] <;> omega

set_option maxHeartbeats 400000 in
theorem iNeg_any (b1 v1 : Value) (z : Int) (w : World) (hz : (wordsOf z.natAbs).length ≤ 1000000) (h1 : IsInt w b1 v1 z) :
    Calls Tryz.prog 213 #[.agg #[b1, v1]] w (RInt w (-z)) := by
  obtain ⟨s, A, n, c, rfl, rfl, hs, hn, hN⟩ := h1.form
  have H1 := Lib.hid hN
  have HS := Lib.hid hs
  clear h1 hN hs hn
  go_enter Tryz.func213, Tryz.ntmps213
  go_wp2_with fail
  obtain ⟨W, hW⟩ : ∃ W : World, W = (w.alloc (.cells #[.bool s, .slice A n c] 37)).alloc (.cells #[.bool false, .slice none 0 0] 37) := ⟨_, rfl⟩
  rw [← hW]
  have hE : Ext w W := by rw [hW]; exact ((Ext.refl w).alloc _).alloc _
  have hB1 : Blk W (w.heap.size) 37 #[.bool s, .slice A n c] := by rw [hW]; exact (Blk.newAt _ _ _ (by simp)).alloc _
  have hB2 : Blk W (w.heap.size + 1) 37 #[.bool false, .slice none 0 0] := by rw [hW]; exact Blk.newAt _ _ _ (by simp)
  clear hW
  have HK : Hid (∀ w', Ext W w' → Ext w w' ∧ w'.cell? ⟨w.heap.size, 0, none⟩ = some (.bool s) ∧ w'.cell? ⟨w.heap.size, 1, none⟩ = some (.slice A n c)) := fun w' h => ⟨hE.trans h, (hB1.ext h).cell 0, (hB1.ext h).cell 1⟩
  have HK2 : Hid (∀ w' w'', w'.grownBy w'' (some (w.heap.size + 1)) → Ext W w' → Ext w w'' ∧ w''.cell? ⟨w.heap.size, 0, none⟩ = some (.bool s) ∧ w''.cell? ⟨w.heap.size, 1, none⟩ = some (.slice A n c)) := fun w' w'' hg h => ⟨(hE.trans h).grown hg (by intro k hk; injection hk with hk; omega), (hg.cell_far ⟨w.heap.size, 0, none⟩ (hB1.ext h).lt (by first | (simp; done) | (simp; omega))).trans ((hB1.ext h).cell 0), (hg.cell_far ⟨w.heap.size, 1, none⟩ (hB1.ext h).lt (by first | (simp; done) | (simp; omega))).trans ((hB1.ext h).cell 1)⟩
  refine (of_nat _ _ _ _ (by omega) (H1.out.ext (by (repeat (first | with_reducible assumption | with_reducible exact Ext.refl _ | with_reducible refine Ext.drew ?_ | with_reducible refine Ext.drewN ?_ _ | with_reducible refine Ext.alloc ?_ _ | with_reducible refine Ext.set2 ?_ (by omega) _ _ | with_reducible refine Ext.setCell ?_ (by first | omega | (simp; done) | (simp; omega)) _ | with_reducible refine Ext.trans ?_ (by with_reducible assumption)))))).mono ?_
  rintro e w3 ⟨s3, A3, n3, c3, rfl, hm3, he3⟩
  have hq3 := (hB2.ext he3).two
  go_wp2
  refine bodyPost_ret (v := .agg #[.bool s3, .slice A3 n3 c3]) (by simp [results, Tryz.results213, go_sem, hq3]) rfl ?_
  have hz : signed (!s) z.natAbs = (-z) := by rw [HS.out]; exact signed_not z
  rw [hz] at hm3
  exact RInt.close hE he3 hB2 (by omega) hm3
set_option maxHeartbeats 400000 in
theorem iAbs_any (b1 v1 : Value) (z : Int) (w : World) (hz : (wordsOf z.natAbs).length ≤ 1000000) (h1 : IsInt w b1 v1 z) :
    Calls Tryz.prog 107 #[.agg #[b1, v1]] w (RInt w (z.natAbs : Int)) := by
  obtain ⟨s, A, n, c, rfl, rfl, hs, hn, hN⟩ := h1.form
  have H1 := Lib.hid hN
  have HS := Lib.hid hs
  clear h1 hN hs hn
  go_enter Tryz.func107, Tryz.ntmps107
  go_wp2_with fail
  obtain ⟨W, hW⟩ : ∃ W : World, W = (w.alloc (.cells #[.bool s, .slice A n c] 37)).alloc (.cells #[.bool false, .slice none 0 0] 37) := ⟨_, rfl⟩
  rw [← hW]
  have hE : Ext w W := by rw [hW]; exact ((Ext.refl w).alloc _).alloc _
  have hB1 : Blk W (w.heap.size) 37 #[.bool s, .slice A n c] := by rw [hW]; exact (Blk.newAt _ _ _ (by simp)).alloc _
  have hB2 : Blk W (w.heap.size + 1) 37 #[.bool false, .slice none 0 0] := by rw [hW]; exact Blk.newAt _ _ _ (by simp)
  clear hW
  have HK : Hid (∀ w', Ext W w' → Ext w w' ∧ w'.cell? ⟨w.heap.size, 0, none⟩ = some (.bool s) ∧ w'.cell? ⟨w.heap.size, 1, none⟩ = some (.slice A n c)) := fun w' h => ⟨hE.trans h, (hB1.ext h).cell 0, (hB1.ext h).cell 1⟩
  have HK2 : Hid (∀ w' w'', w'.grownBy w'' (some (w.heap.size + 1)) → Ext W w' → Ext w w'' ∧ w''.cell? ⟨w.heap.size, 0, none⟩ = some (.bool s) ∧ w''.cell? ⟨w.heap.size, 1, none⟩ = some (.slice A n c)) := fun w' w'' hg h => ⟨(hE.trans h).grown hg (by intro k hk; injection hk with hk; omega), (hg.cell_far ⟨w.heap.size, 0, none⟩ (hB1.ext h).lt (by first | (simp; done) | (simp; omega))).trans ((hB1.ext h).cell 0), (hg.cell_far ⟨w.heap.size, 1, none⟩ (hB1.ext h).lt (by first | (simp; done) | (simp; omega))).trans ((hB1.ext h).cell 1)⟩
  refine (of_nat _ _ _ _ (by omega) (H1.out.ext (by (repeat (first | with_reducible assumption | with_reducible exact Ext.refl _ | with_reducible refine Ext.drew ?_ | with_reducible refine Ext.drewN ?_ _ | with_reducible refine Ext.alloc ?_ _ | with_reducible refine Ext.set2 ?_ (by omega) _ _ | with_reducible refine Ext.setCell ?_ (by first | omega | (simp; done) | (simp; omega)) _ | with_reducible refine Ext.trans ?_ (by with_reducible assumption)))))).mono ?_
  rintro e w3 ⟨s3, A3, n3, c3, rfl, hm3, he3⟩
  have hq3 := (hB2.ext he3).two
  go_wp2
  refine bodyPost_ret (v := .agg #[.bool s3, .slice A3 n3 c3]) (by simp [results, Tryz.results107, go_sem, hq3]) rfl ?_
  have hz : signed false z.natAbs = (z.natAbs : Int) := by rfl
  rw [hz] at hm3
  exact RInt.close hE he3 hB2 (by omega) hm3
set_option maxHeartbeats 400000 in
theorem iNeg1_any (b1 v1 : Value) (z : Int) (w : World) (hz : (wordsOf z.natAbs).length ≤ 1000000) (h1 : IsInt w b1 v1 z) :
    Calls Tryz.prog 100 #[.agg #[b1, v1]] w (RInt w (-z)) := by
  obtain ⟨s, A, n, c, rfl, rfl, hs, hn, hN⟩ := h1.form
  have H1 := Lib.hid hN
  have HS := Lib.hid hs
  clear h1 hN hs hn
  go_enter Tryz.func100, Tryz.ntmps100
  go_wp2_with fail
  obtain ⟨W, hW⟩ : ∃ W : World, W = (w.alloc (.cells #[.bool s, .slice A n c] 37)).alloc (.cells #[.bool false, .slice none 0 0] 37) := ⟨_, rfl⟩
  rw [← hW]
  have hE : Ext w W := by rw [hW]; exact ((Ext.refl w).alloc _).alloc _
  have hB1 : Blk W (w.heap.size) 37 #[.bool s, .slice A n c] := by rw [hW]; exact (Blk.newAt _ _ _ (by simp)).alloc _
  have hB2 : Blk W (w.heap.size + 1) 37 #[.bool false, .slice none 0 0] := by rw [hW]; exact Blk.newAt _ _ _ (by simp)
  clear hW
  have HK : Hid (∀ w', Ext W w' → Ext w w' ∧ w'.cell? ⟨w.heap.size, 0, none⟩ = some (.bool s) ∧ w'.cell? ⟨w.heap.size, 1, none⟩ = some (.slice A n c)) := fun w' h => ⟨hE.trans h, (hB1.ext h).cell 0, (hB1.ext h).cell 1⟩
  have HK2 : Hid (∀ w' w'', w'.grownBy w'' (some (w.heap.size + 1)) → Ext W w' → Ext w w'' ∧ w''.cell? ⟨w.heap.size, 0, none⟩ = some (.bool s) ∧ w''.cell? ⟨w.heap.size, 1, none⟩ = some (.slice A n c)) := fun w' w'' hg h => ⟨(hE.trans h).grown hg (by intro k hk; injection hk with hk; omega), (hg.cell_far ⟨w.heap.size, 0, none⟩ (hB1.ext h).lt (by first | (simp; done) | (simp; omega))).trans ((hB1.ext h).cell 0), (hg.cell_far ⟨w.heap.size, 1, none⟩ (hB1.ext h).lt (by first | (simp; done) | (simp; omega))).trans ((hB1.ext h).cell 1)⟩
  refine (made_nat _ _ _ _ (by omega) (H1.out.ext (by (repeat (first | with_reducible assumption | with_reducible exact Ext.refl _ | with_reducible refine Ext.drew ?_ | with_reducible refine Ext.drewN ?_ _ | with_reducible refine Ext.alloc ?_ _ | with_reducible refine Ext.set2 ?_ (by omega) _ _ | with_reducible refine Ext.setCell ?_ (by first | omega | (simp; done) | (simp; omega)) _ | with_reducible refine Ext.trans ?_ (by with_reducible assumption)))))).mono ?_
  rintro e w3 ⟨s3, A3, n3, c3, rfl, hm3, he3⟩
  have hq3 := (hB2.ext he3).two
  go_wp2
  refine bodyPost_ret (v := .agg #[.bool s3, .slice A3 n3 c3]) (by simp [results, Tryz.results100, go_sem, hq3]) rfl ?_
  have hz : signed (!s) z.natAbs = (-z) := by rw [HS.out]; exact signed_not z
  rw [hz] at hm3
  exact RInt.close hE he3 hB2 (by omega) hm3
set_option maxHeartbeats 400000 in
theorem iAbs1_any (b1 v1 : Value) (z : Int) (w : World) (hz : (wordsOf z.natAbs).length ≤ 1000000) (h1 : IsInt w b1 v1 z) :
    Calls Tryz.prog 156 #[.agg #[b1, v1]] w (RInt w (z.natAbs : Int)) := by
  obtain ⟨s, A, n, c, rfl, rfl, hs, hn, hN⟩ := h1.form
  have H1 := Lib.hid hN
  have HS := Lib.hid hs
  clear h1 hN hs hn
  go_enter Tryz.func156, Tryz.ntmps156
  go_wp2_with fail
  obtain ⟨W, hW⟩ : ∃ W : World, W = (w.alloc (.cells #[.bool s, .slice A n c] 37)).alloc (.cells #[.bool false, .slice none 0 0] 37) := ⟨_, rfl⟩
  rw [← hW]
  have hE : Ext w W := by rw [hW]; exact ((Ext.refl w).alloc _).alloc _
  have hB1 : Blk W (w.heap.size) 37 #[.bool s, .slice A n c] := by rw [hW]; exact (Blk.newAt _ _ _ (by simp)).alloc _
  have hB2 : Blk W (w.heap.size + 1) 37 #[.bool false, .slice none 0 0] := by rw [hW]; exact Blk.newAt _ _ _ (by simp)
  clear hW
  have HK : Hid (∀ w', Ext W w' → Ext w w' ∧ w'.cell? ⟨w.heap.size, 0, none⟩ = some (.bool s) ∧ w'.cell? ⟨w.heap.size, 1, none⟩ = some (.slice A n c)) := fun w' h => ⟨hE.trans h, (hB1.ext h).cell 0, (hB1.ext h).cell 1⟩
  have HK2 : Hid (∀ w' w'', w'.grownBy w'' (some (w.heap.size + 1)) → Ext W w' → Ext w w'' ∧ w''.cell? ⟨w.heap.size, 0, none⟩ = some (.bool s) ∧ w''.cell? ⟨w.heap.size, 1, none⟩ = some (.slice A n c)) := fun w' w'' hg h => ⟨(hE.trans h).grown hg (by intro k hk; injection hk with hk; omega), (hg.cell_far ⟨w.heap.size, 0, none⟩ (hB1.ext h).lt (by first | (simp; done) | (simp; omega))).trans ((hB1.ext h).cell 0), (hg.cell_far ⟨w.heap.size, 1, none⟩ (hB1.ext h).lt (by first | (simp; done) | (simp; omega))).trans ((hB1.ext h).cell 1)⟩
  refine (made_nat _ _ _ _ (by omega) (H1.out.ext (by (repeat (first | with_reducible assumption | with_reducible exact Ext.refl _ | with_reducible refine Ext.drew ?_ | with_reducible refine Ext.drewN ?_ _ | with_reducible refine Ext.alloc ?_ _ | with_reducible refine Ext.set2 ?_ (by omega) _ _ | with_reducible refine Ext.setCell ?_ (by first | omega | (simp; done) | (simp; omega)) _ | with_reducible refine Ext.trans ?_ (by with_reducible assumption)))))).mono ?_
  rintro e w3 ⟨s3, A3, n3, c3, rfl, hm3, he3⟩
  have hq3 := (hB2.ext he3).two
  go_wp2
  refine bodyPost_ret (v := .agg #[.bool s3, .slice A3 n3 c3]) (by simp [results, Tryz.results156, go_sem, hq3]) rfl ?_
  have hz : signed false z.natAbs = (z.natAbs : Int) := by rfl
  rw [hz] at hm3
  exact RInt.close hE he3 hB2 (by omega) hm3

set_option maxHeartbeats 400000 in
theorem iSign_any (b1 v1 : Value) (z : Int) (w : World) (h1 : IsInt w b1 v1 z) :
    Calls Tryz.prog 63 #[.agg #[b1, v1]] w fun e w' => e = .returned (.int .i64 z.sign) ∧ Ext w w' := by
  obtain ⟨s, A, n, c, rfl, rfl, hs, hn, hN⟩ := h1.form
  clear h1 hN
  rcases Int.lt_trichotomy z 0 with h | h | h
  · have hn0 : ((n : Int) == 0) = false := by rw [beq_eq_false_iff_ne]; have := @wordsOf_len0 z.natAbs; omega
    have hs0 : s = true := by rw [hs]; simp [h]
    have HZ := Lib.hid (Int.sign_eq_neg_one_of_neg h)
    subst hs0
    clear hs hn h
    go_enter Tryz.func63, Tryz.ntmps63
    go_wp2
    go_ret
    exact ⟨ret_int HZ.out.symm, (Ext.refl _).alloc _⟩
  · subst h
    have hn0 : n = 0 := by rw [hn]; rfl
    subst hn0
    clear hs hn
    go_enter Tryz.func63, Tryz.ntmps63
    go_wp2
    go_ret
    exact ⟨ret_int rfl, (Ext.refl _).alloc _⟩
  · have hn0 : ((n : Int) == 0) = false := by rw [beq_eq_false_iff_ne]; have := @wordsOf_len0 z.natAbs; omega
    have hs0 : s = false := by rw [hs]; simp; omega
    have HZ := Lib.hid (Int.sign_eq_one_of_pos h)
    subst hs0
    clear hs hn h
    go_enter Tryz.func63, Tryz.ntmps63
    go_wp2
    go_ret
    exact ⟨ret_int HZ.out.symm, (Ext.refl _).alloc _⟩
set_option maxHeartbeats 400000 in
theorem iSign1_any (b1 v1 : Value) (z : Int) (w : World) (h1 : IsInt w b1 v1 z) :
    Calls Tryz.prog 70 #[.agg #[b1, v1]] w fun e w' => e = .returned (.int .i64 z.sign) ∧ Ext w w' := by
  obtain ⟨s, A, n, c, rfl, rfl, hs, hn, hN⟩ := h1.form
  clear h1 hN
  rcases Int.lt_trichotomy z 0 with h | h | h
  · have hn0 : ((n : Int) == 0) = false := by rw [beq_eq_false_iff_ne]; have := @wordsOf_len0 z.natAbs; omega
    have hs0 : s = true := by rw [hs]; simp [h]
    have HZ := Lib.hid (Int.sign_eq_neg_one_of_neg h)
    subst hs0
    clear hs hn h
    go_enter Tryz.func70, Tryz.ntmps70
    go_wp2
    go_ret
    exact ⟨ret_int HZ.out.symm, (Ext.refl _).alloc _⟩
  · subst h
    have hn0 : n = 0 := by rw [hn]; rfl
    subst hn0
    clear hs hn
    go_enter Tryz.func70, Tryz.ntmps70
    go_wp2
    go_ret
    exact ⟨ret_int rfl, (Ext.refl _).alloc _⟩
  · have hn0 : ((n : Int) == 0) = false := by rw [beq_eq_false_iff_ne]; have := @wordsOf_len0 z.natAbs; omega
    have hs0 : s = false := by rw [hs]; simp; omega
    have HZ := Lib.hid (Int.sign_eq_one_of_pos h)
    subst hs0
    clear hs hn h
    go_enter Tryz.func70, Tryz.ntmps70
    go_wp2
    go_ret
    exact ⟨ret_int HZ.out.symm, (Ext.refl _).alloc _⟩

set_option maxRecDepth 100000 in
set_option maxHeartbeats 1000000 in
theorem iMul_any (b1 v1 b2 v2 : Value) (x y : Int) (w : World) (hx : (wordsOf x.natAbs).length ≤ 1000) (hy : (wordsOf y.natAbs).length ≤ 1000) (h1 : IsInt w b1 v1 x) (h2 : IsInt w b2 v2 y) :
    Calls Tryz.prog 78 #[.agg #[b1, v1], .agg #[b2, v2]] w (RInt w (x * y)) := by
  obtain ⟨s, A, n, c, rfl, rfl, hs, hn, hN⟩ := h1.form
  obtain ⟨s', A', n', c', rfl, rfl, hs', hn', hN'⟩ := h2.form
  have H1 := Lib.hid hN
  have H2 := Lib.hid hN'
  have HS := Lib.hid hs
  have HS' := Lib.hid hs'
  clear h1 h2 hN hN' hs hs' hn hn'
  have hml := wordsOf_len_mul x.natAbs y.natAbs
  go_enter Tryz.func78, Tryz.ntmps78
  go_wp2_with fail
  obtain ⟨W, hW⟩ : ∃ W : World, W = ((w.alloc (.cells #[.bool s, .slice A n c] 37)).alloc (.cells #[.bool s', .slice A' n' c'] 37)).alloc (.cells #[.bool false, .slice none 0 0] 37) := ⟨_, rfl⟩
  rw [← hW]
  have hE : Ext w W := by rw [hW]; exact (((Ext.refl w).alloc _).alloc _).alloc _
  have hB1 : Blk W (w.heap.size) 37 #[.bool s, .slice A n c] := by rw [hW]; exact ((Blk.newAt _ _ _ (by simp)).alloc _).alloc _
  have hB2 : Blk W (w.heap.size + 1) 37 #[.bool s', .slice A' n' c'] := by rw [hW]; exact (Blk.newAt _ _ _ (by simp)).alloc _
  have hB3 : Blk W (w.heap.size + 1 + 1) 37 #[.bool false, .slice none 0 0] := by rw [hW]; exact Blk.newAt _ _ _ (by simp)
  clear hW
  have HK : Hid (∀ w', Ext W w' → Ext w w' ∧ w'.cell? ⟨w.heap.size, 0, none⟩ = some (.bool s) ∧ w'.cell? ⟨w.heap.size, 1, none⟩ = some (.slice A n c) ∧ w'.cell? ⟨w.heap.size + 1, 0, none⟩ = some (.bool s') ∧ w'.cell? ⟨w.heap.size + 1, 1, none⟩ = some (.slice A' n' c')) := fun w' h => ⟨hE.trans h, (hB1.ext h).cell 0, (hB1.ext h).cell 1, (hB2.ext h).cell 0, (hB2.ext h).cell 1⟩
  have HK2 : Hid (∀ w' w'', w'.grownBy w'' (some (w.heap.size + 1 + 1)) → Ext W w' → Ext w w'' ∧ w''.cell? ⟨w.heap.size, 0, none⟩ = some (.bool s) ∧ w''.cell? ⟨w.heap.size, 1, none⟩ = some (.slice A n c) ∧ w''.cell? ⟨w.heap.size + 1, 0, none⟩ = some (.bool s') ∧ w''.cell? ⟨w.heap.size + 1, 1, none⟩ = some (.slice A' n' c')) := fun w' w'' hg h => ⟨(hE.trans h).grown hg (by intro k hk; injection hk with hk; omega), (hg.cell_far ⟨w.heap.size, 0, none⟩ (hB1.ext h).lt (by first | (simp; done) | (simp; omega))).trans ((hB1.ext h).cell 0), (hg.cell_far ⟨w.heap.size, 1, none⟩ (hB1.ext h).lt (by first | (simp; done) | (simp; omega))).trans ((hB1.ext h).cell 1), (hg.cell_far ⟨w.heap.size + 1, 0, none⟩ (hB2.ext h).lt (by first | (simp; done) | (simp; omega))).trans ((hB2.ext h).cell 0), (hg.cell_far ⟨w.heap.size + 1, 1, none⟩ (hB2.ext h).lt (by first | (simp; done) | (simp; omega))).trans ((hB2.ext h).cell 1)⟩
  go_region_held3 (fun w' => Ext w w' ∧ w'.cell? ⟨w.heap.size, 0, none⟩ = some (.bool s) ∧ w'.cell? ⟨w.heap.size, 1, none⟩ = some (.slice A n c) ∧ w'.cell? ⟨w.heap.size + 1, 0, none⟩ = some (.bool s') ∧ w'.cell? ⟨w.heap.size + 1, 1, none⟩ = some (.slice A' n' c'))
    (first | (refine HK.out _ ?_; (repeat (first | with_reducible assumption | with_reducible exact Ext.refl _ | with_reducible refine Ext.drew ?_ | with_reducible refine Ext.drewN ?_ _ | with_reducible refine Ext.alloc ?_ _ | with_reducible refine Ext.set2 ?_ (by omega) _ _ | with_reducible refine Ext.setCell ?_ (by first | omega | (simp; done) | (simp; omega)) _ | with_reducible refine Ext.trans ?_ (by with_reducible assumption))); done) | exact HK2.out _ _ (by (repeat (first | apply grow_set | exact World.grownBy.refl _ _))) (by (repeat (first | with_reducible assumption | with_reducible exact Ext.refl _ | with_reducible refine Ext.drew ?_ | with_reducible refine Ext.drewN ?_ _ | with_reducible refine Ext.alloc ?_ _ | with_reducible refine Ext.set2 ?_ (by omega) _ _ | with_reducible refine Ext.setCell ?_ (by first | omega | (simp; done) | (simp; omega)) _ | with_reducible refine Ext.trans ?_ (by with_reducible assumption)))))
    (first | (go_at_call 114; refine (mul_nat _ _ _ _ _ (by omega) (by omega) (H1.out.ext (by (repeat (first | with_reducible assumption | with_reducible exact Ext.refl _ | with_reducible refine Ext.drew ?_ | with_reducible refine Ext.drewN ?_ _ | with_reducible refine Ext.alloc ?_ _ | with_reducible refine Ext.set2 ?_ (by omega) _ _ | with_reducible refine Ext.setCell ?_ (by first | omega | (simp; done) | (simp; omega)) _ | with_reducible refine Ext.trans ?_ (by with_reducible assumption))))) (H2.out.ext (by (repeat (first | with_reducible assumption | with_reducible exact Ext.refl _ | with_reducible refine Ext.drew ?_ | with_reducible refine Ext.drewN ?_ _ | with_reducible refine Ext.alloc ?_ _ | with_reducible refine Ext.set2 ?_ (by omega) _ _ | with_reducible refine Ext.setCell ?_ (by first | omega | (simp; done) | (simp; omega)) _ | with_reducible refine Ext.trans ?_ (by with_reducible assumption)))))).mono ?_; rintro e w2 ⟨A2, n2, c2, rfl, hm, he1⟩) | (go_at_call 95; refine (of_nat _ _ _ _ (by omega) hm).mono ?_; rintro e w3 ⟨s3, A3, n3, c3, rfl, hm3, he3⟩; have hq3 := (hB3.ext (show Ext W w3 by (repeat (first | with_reducible assumption | with_reducible exact Ext.refl _ | with_reducible refine Ext.drew ?_ | with_reducible refine Ext.drewN ?_ _ | with_reducible refine Ext.alloc ?_ _ | with_reducible refine Ext.set2 ?_ (by omega) _ _ | with_reducible refine Ext.setCell ?_ (by first | omega | (simp; done) | (simp; omega)) _ | with_reducible refine Ext.trans ?_ (by with_reducible assumption))))).two))
  go_wp2
  refine bodyPost_ret (v := .agg #[.bool s3, .slice A3 n3 c3]) (by simp [results, Tryz.results78, go_sem, hq3]) rfl ?_
  have hEE : Ext W w3 := by (repeat (first | with_reducible assumption | with_reducible exact Ext.refl _ | with_reducible refine Ext.drew ?_ | with_reducible refine Ext.drewN ?_ _ | with_reducible refine Ext.alloc ?_ _ | with_reducible refine Ext.set2 ?_ (by omega) _ _ | with_reducible refine Ext.setCell ?_ (by first | omega | (simp; done) | (simp; omega)) _ | with_reducible refine Ext.trans ?_ (by with_reducible assumption)))
  have hz : signed (!s == s') (x.natAbs * y.natAbs) = x * y := by
    rw [← signed_mul, HS.out, HS'.out]; rfl
  rw [hz] at hm3
  exact RInt.close hE hEE hB3 (by omega) hm3


end Go.Proofs.YtekipapkcgoieaaGreatDoor

/- The program's integers: comparison, sums, differences. -/
namespace Go.Proofs.YtekipapkcgoieaaGreatDoor
open Go.RowKit
attribute [local go_sem ↓] Go.wp_at_zero Go.wp_at_succ

def orZ (a b : Int) : Int := if a = 0 then b else a

set_option maxHeartbeats 400000 in
theorem cmpOr_any (g : Nat) (a b : Int) (w : World) (h0 : w.cell? ⟨g, 0, none⟩ = some (.int .i64 a)) (h1 : w.cell? ⟨g, 1, none⟩ = some (.int .i64 b)) (hb : b ≠ 0) :
    Calls Tryz.prog 119 #[.slice (some ⟨g, 0, none⟩) 2 2] w fun e w' => e = .returned (.int .i64 (orZ a b)) ∧ w = w' := by
  by_cases ha : a = 0
  · subst ha
    have hb' : (b != 0) = true := by rw [bne_iff_ne]; exact hb
    go_enter Tryz.func119, Tryz.ntmps119
    go_wp2
    refine wp_loop_rounds 2 ?_
    rw [rounds_succ]
    go_wp2
    rw [rounds_succ]
    go_wp2
    go_ret
    exact ⟨rfl, rfl⟩
  · have ha' : (a != 0) = true := by rw [bne_iff_ne]; exact ha
    have hz := Lib.hid (show orZ a b = a by unfold orZ; rw [if_neg ha])
    clear ha
    go_enter Tryz.func119, Tryz.ntmps119
    go_wp2
    refine wp_loop_once ?_
    go_wp2
    go_ret
    exact ⟨ret_int hz.out.symm, rfl⟩

theorem icmp_bd (a b : Int) : -1 ≤ icmp a b ∧ icmp a b ≤ 1 := by unfold icmp; split <;> (try split) <;> omega
theorem icmp_wrap (a b : Int) : IntKind.i64.wrap (icmp a b) = icmp a b := by
  have := icmp_bd a b
  rw [IntKind.wrap_i64]; omega
theorem icmp_sign {x y : Int} (h : decide (x < 0) ≠ decide (y < 0)) : icmp x.sign y.sign = icmp x y := by
  by_cases h1 : x < 0 <;> by_cases h2 : y < 0 <;> simp [h1, h2] at h
  · rw [Int.sign_eq_neg_one_of_neg h1, icmp_lt (show x < y by omega)]
    rcases Int.lt_or_eq_of_le (show (0 : Int) ≤ y by omega) with h3 | h3
    · rw [Int.sign_eq_one_of_pos h3]; rfl
    · rw [← h3]; rfl
  · rw [Int.sign_eq_neg_one_of_neg h2, icmp_gt (show y < x by omega)]
    rcases Int.lt_or_eq_of_le (show (0 : Int) ≤ x by omega) with h3 | h3
    · rw [Int.sign_eq_one_of_pos h3]; rfl
    · rw [← h3]; rfl
theorem icmp_abs {x y : Int} (h : decide (x < 0) = decide (y < 0)) : icmp (x.natAbs : Int) (y.natAbs : Int) * orZ x.sign 1 = icmp x y := by
  by_cases h1 : x < 0
  · have h2 : y < 0 := by simpa [h1] using h.symm
    rw [Int.sign_eq_neg_one_of_neg h1, show orZ (-1) 1 = -1 from rfl, show ((x.natAbs : Nat) : Int) = -x from by omega, show ((y.natAbs : Nat) : Int) = -y from by omega]
    unfold icmp
    by_cases h3 : x < y
    · rw [if_neg (by omega), if_pos (by omega), if_pos h3]; rfl
    · by_cases h4 : y < x
      · rw [if_pos (by omega), if_neg h3, if_pos h4]; rfl
      · rw [if_neg (by omega), if_neg (by omega), if_neg h3, if_neg h4]; rfl
  · have h2 : ¬ y < 0 := by intro h2; simp [h1, h2] at h
    have h5 : orZ x.sign 1 = 1 := by
      rcases Int.lt_or_eq_of_le (show (0 : Int) ≤ x by omega) with h3 | h3
      · rw [Int.sign_eq_one_of_pos h3]; rfl
      · rw [← h3]; rfl
    rw [h5, Int.mul_one, show ((x.natAbs : Nat) : Int) = x from by omega, show ((y.natAbs : Nat) : Int) = y from by omega]

set_option maxRecDepth 100000 in
set_option maxHeartbeats 1000000 in
theorem iCmp_any (b1 v1 b2 v2 : Value) (x y : Int) (w : World) (hx : (wordsOf x.natAbs).length ≤ 1000000) (hy : (wordsOf y.natAbs).length ≤ 1000000) (h1 : IsInt w b1 v1 x) (h2 : IsInt w b2 v2 y) :
    Calls Tryz.prog 101 #[.agg #[b1, v1], .agg #[b2, v2]] w fun e w' => e = .returned (.int .i64 (icmp x y)) ∧ Ext w w' := by
  obtain ⟨s, A, n, c, rfl, rfl, hs, hn, hN⟩ := h1.form
  obtain ⟨s', A', n', c', rfl, rfl, hs', hn', hN'⟩ := h2.form
  have H1 := Lib.hid hN
  have H2 := Lib.hid hN'
  have HI1 := Lib.hid h1
  have HI2 := Lib.hid h2
  by_cases hss : s = s'
  · have HF := Lib.hid (icmp_abs (hs.symm.trans (hss.trans hs')))
    subst hss
    clear h1 h2 hN hN' hs hs' hn hn'
    go_enter Tryz.func101, Tryz.ntmps101
    go_wp2_with fail
    obtain ⟨W, hW⟩ : ∃ W : World, W = (w.alloc (.cells #[.bool s, .slice A n c] 37)).alloc (.cells #[.bool s, .slice A' n' c'] 37) := ⟨_, rfl⟩
    rw [← hW]
    have hE : Ext w W := by rw [hW]; exact ((Ext.refl w).alloc _).alloc _
    have hB1 : Blk W (w.heap.size) 37 #[.bool s, .slice A n c] := by rw [hW]; exact (Blk.newAt _ _ _ (by simp)).alloc _
    have hB2 : Blk W (w.heap.size + 1) 37 #[.bool s, .slice A' n' c'] := by rw [hW]; exact Blk.newAt _ _ _ (by simp)
    clear hW
    have HK : Hid (∀ w', Ext W w' → Ext w w' ∧ w'.cell? ⟨w.heap.size, 0, none⟩ = some (.bool s) ∧ w'.cell? ⟨w.heap.size, 1, none⟩ = some (.slice A n c) ∧ w'.cell? ⟨w.heap.size + 1, 0, none⟩ = some (.bool s) ∧ w'.cell? ⟨w.heap.size + 1, 1, none⟩ = some (.slice A' n' c')) := fun w' h => ⟨hE.trans h, (hB1.ext h).cell 0, (hB1.ext h).cell 1, (hB2.ext h).cell 0, (hB2.ext h).cell 1⟩
    go_region_held3 (fun w' => Ext w w' ∧ w'.cell? ⟨w.heap.size, 0, none⟩ = some (.bool s) ∧ w'.cell? ⟨w.heap.size, 1, none⟩ = some (.slice A n c) ∧ w'.cell? ⟨w.heap.size + 1, 0, none⟩ = some (.bool s) ∧ w'.cell? ⟨w.heap.size + 1, 1, none⟩ = some (.slice A' n' c'))
      (first | (refine HK.out _ ?_; (repeat (first | with_reducible assumption | with_reducible exact Ext.refl _ | with_reducible refine Ext.drew ?_ | with_reducible refine Ext.drewN ?_ _ | with_reducible refine Ext.alloc ?_ _ | with_reducible refine Ext.set2 ?_ (by omega) _ _ | with_reducible refine Ext.setCell ?_ (by first | omega | (simp; done) | (simp; omega)) _ | with_reducible refine Ext.trans ?_ (by with_reducible assumption))); done))
      (first | (go_at_call 112; refine (cmp_nat _ _ _ _ _ (by omega) (by omega) (H1.out.ext (by (repeat (first | with_reducible assumption | with_reducible exact Ext.refl _ | with_reducible refine Ext.drew ?_ | with_reducible refine Ext.drewN ?_ _ | with_reducible refine Ext.alloc ?_ _ | with_reducible refine Ext.set2 ?_ (by omega) _ _ | with_reducible refine Ext.setCell ?_ (by first | omega | (simp; done) | (simp; omega)) _ | with_reducible refine Ext.trans ?_ (by with_reducible assumption))))) (H2.out.ext (by (repeat (first | with_reducible assumption | with_reducible exact Ext.refl _ | with_reducible refine Ext.drew ?_ | with_reducible refine Ext.drewN ?_ _ | with_reducible refine Ext.alloc ?_ _ | with_reducible refine Ext.set2 ?_ (by omega) _ _ | with_reducible refine Ext.setCell ?_ (by first | omega | (simp; done) | (simp; omega)) _ | with_reducible refine Ext.trans ?_ (by with_reducible assumption)))))).mono ?_; rintro e w2 ⟨rfl, nd, rfl⟩) | (go_at_call 63; (with_reducible refine (iSign_any _ _ _ _ (HI1.out.ext (by (repeat (first | with_reducible assumption | with_reducible exact Ext.refl _ | with_reducible refine Ext.drew ?_ | with_reducible refine Ext.drewN ?_ _ | with_reducible refine Ext.alloc ?_ _ | with_reducible refine Ext.set2 ?_ (by omega) _ _ | with_reducible refine Ext.setCell ?_ (by first | omega | (simp; done) | (simp; omega)) _ | with_reducible refine Ext.trans ?_ (by with_reducible assumption)))))).mono ?_); rintro e w3 ⟨rfl, he3⟩) | (go_at_call 119; refine (cmpOr_any w3.heap.size x.sign 1 _ ?a1 ?a2 ?a4).mono ?_; (case a1 => simp); (case a2 => simp); (case a4 => decide); rintro e w4 ⟨rfl, rfl⟩))
    go_wp2
    go_ret
    exact ⟨ret_int (by rw [HF.out, icmp_wrap]), hE.trans (by (repeat (first | with_reducible assumption | with_reducible exact Ext.refl _ | with_reducible refine Ext.drew ?_ | with_reducible refine Ext.drewN ?_ _ | with_reducible refine Ext.alloc ?_ _ | with_reducible refine Ext.set2 ?_ (by omega) _ _ | with_reducible refine Ext.setCell ?_ (by first | omega | (simp; done) | (simp; omega)) _ | with_reducible refine Ext.trans ?_ (by with_reducible assumption))))⟩
  · have HF := Lib.hid (icmp_sign (show decide (x < 0) ≠ decide (y < 0) from fun e => hss (hs.trans (e.trans hs'.symm))))
    obtain rfl : s' = !s := by cases s <;> cases s' <;> simp_all
    clear h1 h2 hN hN' hs hs' hn hn' hss
    go_enter Tryz.func101, Tryz.ntmps101
    go_wp2_with fail
    obtain ⟨W, hW⟩ : ∃ W : World, W = (w.alloc (.cells #[.bool s, .slice A n c] 37)).alloc (.cells #[.bool (!s), .slice A' n' c'] 37) := ⟨_, rfl⟩
    rw [← hW]
    have hE : Ext w W := by rw [hW]; exact ((Ext.refl w).alloc _).alloc _
    have hB1 : Blk W (w.heap.size) 37 #[.bool s, .slice A n c] := by rw [hW]; exact (Blk.newAt _ _ _ (by simp)).alloc _
    have hB2 : Blk W (w.heap.size + 1) 37 #[.bool (!s), .slice A' n' c'] := by rw [hW]; exact Blk.newAt _ _ _ (by simp)
    clear hW
    have HK : Hid (∀ w', Ext W w' → Ext w w' ∧ w'.cell? ⟨w.heap.size, 0, none⟩ = some (.bool s) ∧ w'.cell? ⟨w.heap.size, 1, none⟩ = some (.slice A n c) ∧ w'.cell? ⟨w.heap.size + 1, 0, none⟩ = some (.bool (!s)) ∧ w'.cell? ⟨w.heap.size + 1, 1, none⟩ = some (.slice A' n' c')) := fun w' h => ⟨hE.trans h, (hB1.ext h).cell 0, (hB1.ext h).cell 1, (hB2.ext h).cell 0, (hB2.ext h).cell 1⟩
    go_region_held3 (fun w' => Ext w w' ∧ w'.cell? ⟨w.heap.size, 0, none⟩ = some (.bool s) ∧ w'.cell? ⟨w.heap.size, 1, none⟩ = some (.slice A n c) ∧ w'.cell? ⟨w.heap.size + 1, 0, none⟩ = some (.bool (!s)) ∧ w'.cell? ⟨w.heap.size + 1, 1, none⟩ = some (.slice A' n' c'))
      (first | (refine HK.out _ ?_; (repeat (first | with_reducible assumption | with_reducible exact Ext.refl _ | with_reducible refine Ext.drew ?_ | with_reducible refine Ext.drewN ?_ _ | with_reducible refine Ext.alloc ?_ _ | with_reducible refine Ext.set2 ?_ (by omega) _ _ | with_reducible refine Ext.setCell ?_ (by first | omega | (simp; done) | (simp; omega)) _ | with_reducible refine Ext.trans ?_ (by with_reducible assumption))); done))
      (first | (go_at_call 63; (with_reducible refine (iSign_any _ _ _ _ (HI1.out.ext (by (repeat (first | with_reducible assumption | with_reducible exact Ext.refl _ | with_reducible refine Ext.drew ?_ | with_reducible refine Ext.drewN ?_ _ | with_reducible refine Ext.alloc ?_ _ | with_reducible refine Ext.set2 ?_ (by omega) _ _ | with_reducible refine Ext.setCell ?_ (by first | omega | (simp; done) | (simp; omega)) _ | with_reducible refine Ext.trans ?_ (by with_reducible assumption)))))).mono ?_); rintro e w3 ⟨rfl, he3⟩) | (go_at_call 63; (with_reducible refine (iSign_any _ _ _ _ (HI2.out.ext (by (repeat (first | with_reducible assumption | with_reducible exact Ext.refl _ | with_reducible refine Ext.drew ?_ | with_reducible refine Ext.drewN ?_ _ | with_reducible refine Ext.alloc ?_ _ | with_reducible refine Ext.set2 ?_ (by omega) _ _ | with_reducible refine Ext.setCell ?_ (by first | omega | (simp; done) | (simp; omega)) _ | with_reducible refine Ext.trans ?_ (by with_reducible assumption)))))).mono ?_); rintro e w3 ⟨rfl, he3⟩) | (go_at_call 120; refine (cmpint_any _ _ _).mono ?_; rintro e w4 ⟨rfl, rfl⟩))
    go_wp2
    go_ret
    exact ⟨ret_int HF.out, hE.trans (by (repeat (first | with_reducible assumption | with_reducible exact Ext.refl _ | with_reducible refine Ext.drew ?_ | with_reducible refine Ext.drewN ?_ _ | with_reducible refine Ext.alloc ?_ _ | with_reducible refine Ext.set2 ?_ (by omega) _ _ | with_reducible refine Ext.setCell ?_ (by first | omega | (simp; done) | (simp; omega)) _ | with_reducible refine Ext.trans ?_ (by with_reducible assumption))))⟩

theorem signed_add_same {x y : Int} (h : decide (x < 0) = decide (y < 0)) : signed (decide (x < 0)) (x.natAbs + y.natAbs) = x + y := by
  unfold signed
  by_cases h1 : x < 0
  · have h2 : y < 0 := by simpa [h1] using h.symm
    simp [h1]; omega
  · have h2 : ¬ y < 0 := by intro h2; simp [h1, h2] at h
    simp [h1]; omega
theorem signed_add_lt {x y : Int} (h : decide (x < 0) ≠ decide (y < 0)) (hlt : x.natAbs < y.natAbs) : signed (decide (y < 0)) (y.natAbs - x.natAbs) = x + y := by
  unfold signed
  by_cases h1 : x < 0 <;> by_cases h2 : y < 0 <;> simp [h1, h2] at h ⊢ <;> omega
theorem signed_add_ge {x y : Int} (h : decide (x < 0) ≠ decide (y < 0)) (hlt : y.natAbs ≤ x.natAbs) : signed (decide (x < 0)) (x.natAbs - y.natAbs) = x + y := by
  unfold signed
  by_cases h1 : x < 0 <;> by_cases h2 : y < 0 <;> simp [h1, h2] at h ⊢ <;> omega

set_option maxRecDepth 100000 in
set_option maxHeartbeats 1000000 in
theorem iAdd_any (b1 v1 b2 v2 : Value) (x y : Int) (w : World) (hx : (wordsOf x.natAbs).length ≤ 1000000) (hy : (wordsOf y.natAbs).length ≤ 1000000) (h1 : IsInt w b1 v1 x) (h2 : IsInt w b2 v2 y) :
    Calls Tryz.prog 77 #[.agg #[b1, v1], .agg #[b2, v2]] w (RInt w (x + y)) := by
  obtain ⟨s, A, n, c, rfl, rfl, hs, hn, hN⟩ := h1.form
  obtain ⟨s', A', n', c', rfl, rfl, hs', hn', hN'⟩ := h2.form
  have H1 := Lib.hid hN
  have H2 := Lib.hid hN'
  by_cases hss : s = s'
  · have HF := Lib.hid (signed_add_same (hs.symm.trans (hss.trans hs')))
    rw [← hs] at HF
    have hml := wordsOf_len_add x.natAbs y.natAbs
    subst hss
    clear h1 h2 hN hN' hs hs' hn hn'
    go_enter Tryz.func77, Tryz.ntmps77
    go_wp2_with fail
    obtain ⟨W, hW⟩ : ∃ W : World, W = ((w.alloc (.cells #[.bool s, .slice A n c] 37)).alloc (.cells #[.bool s, .slice A' n' c'] 37)).alloc (.cells #[.bool false, .slice none 0 0] 37) := ⟨_, rfl⟩
    rw [← hW]
    have hE : Ext w W := by rw [hW]; exact (((Ext.refl w).alloc _).alloc _).alloc _
    have hB1 : Blk W (w.heap.size) 37 #[.bool s, .slice A n c] := by rw [hW]; exact ((Blk.newAt _ _ _ (by simp)).alloc _).alloc _
    have hB2 : Blk W (w.heap.size + 1) 37 #[.bool s, .slice A' n' c'] := by rw [hW]; exact (Blk.newAt _ _ _ (by simp)).alloc _
    have hB3 : Blk W (w.heap.size + 1 + 1) 37 #[.bool false, .slice none 0 0] := by rw [hW]; exact Blk.newAt _ _ _ (by simp)
    clear hW
    have HK : Hid (∀ w', Ext W w' → Ext w w' ∧ w'.cell? ⟨w.heap.size, 0, none⟩ = some (.bool s) ∧ w'.cell? ⟨w.heap.size, 1, none⟩ = some (.slice A n c) ∧ w'.cell? ⟨w.heap.size + 1, 0, none⟩ = some (.bool s) ∧ w'.cell? ⟨w.heap.size + 1, 1, none⟩ = some (.slice A' n' c')) := fun w' h => ⟨hE.trans h, (hB1.ext h).cell 0, (hB1.ext h).cell 1, (hB2.ext h).cell 0, (hB2.ext h).cell 1⟩
    have HK2 : Hid (∀ w' w'', w'.grownBy w'' (some (w.heap.size + 1 + 1)) → Ext W w' → Ext w w'' ∧ w''.cell? ⟨w.heap.size, 0, none⟩ = some (.bool s) ∧ w''.cell? ⟨w.heap.size, 1, none⟩ = some (.slice A n c) ∧ w''.cell? ⟨w.heap.size + 1, 0, none⟩ = some (.bool s) ∧ w''.cell? ⟨w.heap.size + 1, 1, none⟩ = some (.slice A' n' c')) := fun w' w'' hg h => ⟨(hE.trans h).grown hg (by intro k hk; injection hk with hk; omega), (hg.cell_far ⟨w.heap.size, 0, none⟩ (hB1.ext h).lt (by first | (simp; done) | (simp; omega))).trans ((hB1.ext h).cell 0), (hg.cell_far ⟨w.heap.size, 1, none⟩ (hB1.ext h).lt (by first | (simp; done) | (simp; omega))).trans ((hB1.ext h).cell 1), (hg.cell_far ⟨w.heap.size + 1, 0, none⟩ (hB2.ext h).lt (by first | (simp; done) | (simp; omega))).trans ((hB2.ext h).cell 0), (hg.cell_far ⟨w.heap.size + 1, 1, none⟩ (hB2.ext h).lt (by first | (simp; done) | (simp; omega))).trans ((hB2.ext h).cell 1)⟩
    have hq0 := HK.out W (Ext.refl W)
    go_quiet (fail)
    go_wp2_with fail
    go_region_held3 (fun w' => Ext w w' ∧ w'.cell? ⟨w.heap.size, 0, none⟩ = some (.bool s) ∧ w'.cell? ⟨w.heap.size, 1, none⟩ = some (.slice A n c) ∧ w'.cell? ⟨w.heap.size + 1, 0, none⟩ = some (.bool s) ∧ w'.cell? ⟨w.heap.size + 1, 1, none⟩ = some (.slice A' n' c'))
      (first | (refine HK.out _ ?_; (repeat (first | with_reducible assumption | with_reducible exact Ext.refl _ | with_reducible refine Ext.drew ?_ | with_reducible refine Ext.drewN ?_ _ | with_reducible refine Ext.alloc ?_ _ | with_reducible refine Ext.set2 ?_ (by omega) _ _ | with_reducible refine Ext.setCell ?_ (by first | omega | (simp; done) | (simp; omega)) _ | with_reducible refine Ext.trans ?_ (by with_reducible assumption))); done) | exact HK2.out _ _ (by (repeat (first | apply grow_set | exact World.grownBy.refl _ _))) (by (repeat (first | with_reducible assumption | with_reducible exact Ext.refl _ | with_reducible refine Ext.drew ?_ | with_reducible refine Ext.drewN ?_ _ | with_reducible refine Ext.alloc ?_ _ | with_reducible refine Ext.set2 ?_ (by omega) _ _ | with_reducible refine Ext.setCell ?_ (by first | omega | (simp; done) | (simp; omega)) _ | with_reducible refine Ext.trans ?_ (by with_reducible assumption)))))
      (first | (go_at_call 111; (with_reducible refine (add_nat _ _ _ _ _ (by omega) (by omega) (H1.out.ext (by (repeat (first | with_reducible assumption | with_reducible exact Ext.refl _ | with_reducible refine Ext.drew ?_ | with_reducible refine Ext.drewN ?_ _ | with_reducible refine Ext.alloc ?_ _ | with_reducible refine Ext.set2 ?_ (by omega) _ _ | with_reducible refine Ext.setCell ?_ (by first | omega | (simp; done) | (simp; omega)) _ | with_reducible refine Ext.trans ?_ (by with_reducible assumption))))) (H2.out.ext (by (repeat (first | with_reducible assumption | with_reducible exact Ext.refl _ | with_reducible refine Ext.drew ?_ | with_reducible refine Ext.drewN ?_ _ | with_reducible refine Ext.alloc ?_ _ | with_reducible refine Ext.set2 ?_ (by omega) _ _ | with_reducible refine Ext.setCell ?_ (by first | omega | (simp; done) | (simp; omega)) _ | with_reducible refine Ext.trans ?_ (by with_reducible assumption)))))).mono ?_); rintro e w2 ⟨A2, n2, c2, rfl, hm, he1⟩) | (go_at_call 95; (with_reducible refine (of_nat _ _ _ _ (by omega) hm).mono ?_); rintro e w3 ⟨s3, A3, n3, c3, rfl, hm3, he3⟩; have hq3 := (hB3.ext (show Ext W w3 by (repeat (first | with_reducible assumption | with_reducible exact Ext.refl _ | with_reducible refine Ext.drew ?_ | with_reducible refine Ext.drewN ?_ _ | with_reducible refine Ext.alloc ?_ _ | with_reducible refine Ext.set2 ?_ (by omega) _ _ | with_reducible refine Ext.setCell ?_ (by first | omega | (simp; done) | (simp; omega)) _ | with_reducible refine Ext.trans ?_ (by with_reducible assumption))))).two))
    go_wp2
    refine bodyPost_ret (v := .agg #[.bool s3, .slice A3 n3 c3]) (by simp [results, Tryz.results77, go_sem, hq3]) rfl ?_
    have hEE : Ext W w3 := by (repeat (first | with_reducible assumption | with_reducible exact Ext.refl _ | with_reducible refine Ext.drew ?_ | with_reducible refine Ext.drewN ?_ _ | with_reducible refine Ext.alloc ?_ _ | with_reducible refine Ext.set2 ?_ (by omega) _ _ | with_reducible refine Ext.setCell ?_ (by first | omega | (simp; done) | (simp; omega)) _ | with_reducible refine Ext.trans ?_ (by with_reducible assumption)))
    rw [HF.out] at hm3
    exact RInt.close hE hEE hB3 (by omega) hm3
  · have hne : decide (x < 0) ≠ decide (y < 0) := fun e => hss (hs.trans (e.trans hs'.symm))
    have hsn : s' = !s := by cases s <;> cases s' <;> simp_all
    by_cases hlt : x.natAbs < y.natAbs
    · have HF := Lib.hid (signed_add_lt hne hlt)
      rw [← hs'] at HF
      have hi := icmp_nat_lt hlt
      have hml := wordsOf_len_mono (show y.natAbs - x.natAbs ≤ y.natAbs by omega)
      subst hsn
      have hle := Nat.le_of_lt hlt
      clear h1 h2 hN hN' hs hs' hn hn' hss hne
      go_enter Tryz.func77, Tryz.ntmps77
      go_wp2_with fail
      obtain ⟨W, hW⟩ : ∃ W : World, W = ((w.alloc (.cells #[.bool s, .slice A n c] 37)).alloc (.cells #[.bool (!s), .slice A' n' c'] 37)).alloc (.cells #[.bool false, .slice none 0 0] 37) := ⟨_, rfl⟩
      rw [← hW]
      have hE : Ext w W := by rw [hW]; exact (((Ext.refl w).alloc _).alloc _).alloc _
      have hB1 : Blk W (w.heap.size) 37 #[.bool s, .slice A n c] := by rw [hW]; exact ((Blk.newAt _ _ _ (by simp)).alloc _).alloc _
      have hB2 : Blk W (w.heap.size + 1) 37 #[.bool (!s), .slice A' n' c'] := by rw [hW]; exact (Blk.newAt _ _ _ (by simp)).alloc _
      have hB3 : Blk W (w.heap.size + 1 + 1) 37 #[.bool false, .slice none 0 0] := by rw [hW]; exact Blk.newAt _ _ _ (by simp)
      clear hW
      have HK : Hid (∀ w', Ext W w' → Ext w w' ∧ w'.cell? ⟨w.heap.size, 0, none⟩ = some (.bool s) ∧ w'.cell? ⟨w.heap.size, 1, none⟩ = some (.slice A n c) ∧ w'.cell? ⟨w.heap.size + 1, 0, none⟩ = some (.bool (!s)) ∧ w'.cell? ⟨w.heap.size + 1, 1, none⟩ = some (.slice A' n' c')) := fun w' h => ⟨hE.trans h, (hB1.ext h).cell 0, (hB1.ext h).cell 1, (hB2.ext h).cell 0, (hB2.ext h).cell 1⟩
      have HK2 : Hid (∀ w' w'', w'.grownBy w'' (some (w.heap.size + 1 + 1)) → Ext W w' → Ext w w'' ∧ w''.cell? ⟨w.heap.size, 0, none⟩ = some (.bool s) ∧ w''.cell? ⟨w.heap.size, 1, none⟩ = some (.slice A n c) ∧ w''.cell? ⟨w.heap.size + 1, 0, none⟩ = some (.bool (!s)) ∧ w''.cell? ⟨w.heap.size + 1, 1, none⟩ = some (.slice A' n' c')) := fun w' w'' hg h => ⟨(hE.trans h).grown hg (by intro k hk; injection hk with hk; omega), (hg.cell_far ⟨w.heap.size, 0, none⟩ (hB1.ext h).lt (by first | (simp; done) | (simp; omega))).trans ((hB1.ext h).cell 0), (hg.cell_far ⟨w.heap.size, 1, none⟩ (hB1.ext h).lt (by first | (simp; done) | (simp; omega))).trans ((hB1.ext h).cell 1), (hg.cell_far ⟨w.heap.size + 1, 0, none⟩ (hB2.ext h).lt (by first | (simp; done) | (simp; omega))).trans ((hB2.ext h).cell 0), (hg.cell_far ⟨w.heap.size + 1, 1, none⟩ (hB2.ext h).lt (by first | (simp; done) | (simp; omega))).trans ((hB2.ext h).cell 1)⟩
      have hq0 := HK.out W (Ext.refl W)
      go_quiet (fail)
      go_wp2_with fail
      refine (cmp_nat _ _ _ _ _ (by omega) (by omega) (H1.out.ext (by (repeat (first | with_reducible assumption | with_reducible exact Ext.refl _ | with_reducible refine Ext.drew ?_ | with_reducible refine Ext.drewN ?_ _ | with_reducible refine Ext.alloc ?_ _ | with_reducible refine Ext.set2 ?_ (by omega) _ _ | with_reducible refine Ext.setCell ?_ (by first | omega | (simp; done) | (simp; omega)) _ | with_reducible refine Ext.trans ?_ (by with_reducible assumption))))) (H2.out.ext (by (repeat (first | with_reducible assumption | with_reducible exact Ext.refl _ | with_reducible refine Ext.drew ?_ | with_reducible refine Ext.drewN ?_ _ | with_reducible refine Ext.alloc ?_ _ | with_reducible refine Ext.set2 ?_ (by omega) _ _ | with_reducible refine Ext.setCell ?_ (by first | omega | (simp; done) | (simp; omega)) _ | with_reducible refine Ext.trans ?_ (by with_reducible assumption)))))).mono ?_
      rintro e w2 ⟨rfl, nd, rfl⟩
      go_wp2_with fail
      go_region_held3 (fun w' => Ext w w' ∧ w'.cell? ⟨w.heap.size, 0, none⟩ = some (.bool s) ∧ w'.cell? ⟨w.heap.size, 1, none⟩ = some (.slice A n c) ∧ w'.cell? ⟨w.heap.size + 1, 0, none⟩ = some (.bool (!s)) ∧ w'.cell? ⟨w.heap.size + 1, 1, none⟩ = some (.slice A' n' c'))
        (first | (refine HK.out _ ?_; (repeat (first | with_reducible assumption | with_reducible exact Ext.refl _ | with_reducible refine Ext.drew ?_ | with_reducible refine Ext.drewN ?_ _ | with_reducible refine Ext.alloc ?_ _ | with_reducible refine Ext.set2 ?_ (by omega) _ _ | with_reducible refine Ext.setCell ?_ (by first | omega | (simp; done) | (simp; omega)) _ | with_reducible refine Ext.trans ?_ (by with_reducible assumption))); done) | exact HK2.out _ _ (by (repeat (first | apply grow_set | exact World.grownBy.refl _ _))) (by (repeat (first | with_reducible assumption | with_reducible exact Ext.refl _ | with_reducible refine Ext.drew ?_ | with_reducible refine Ext.drewN ?_ _ | with_reducible refine Ext.alloc ?_ _ | with_reducible refine Ext.set2 ?_ (by omega) _ _ | with_reducible refine Ext.setCell ?_ (by first | omega | (simp; done) | (simp; omega)) _ | with_reducible refine Ext.trans ?_ (by with_reducible assumption)))))
        (first | (go_at_call 113; (with_reducible refine (sub_nat _ _ _ _ _ (by omega) hle (H2.out.ext (by (repeat (first | with_reducible assumption | with_reducible exact Ext.refl _ | with_reducible refine Ext.drew ?_ | with_reducible refine Ext.drewN ?_ _ | with_reducible refine Ext.alloc ?_ _ | with_reducible refine Ext.set2 ?_ (by omega) _ _ | with_reducible refine Ext.setCell ?_ (by first | omega | (simp; done) | (simp; omega)) _ | with_reducible refine Ext.trans ?_ (by with_reducible assumption))))) (H1.out.ext (by (repeat (first | with_reducible assumption | with_reducible exact Ext.refl _ | with_reducible refine Ext.drew ?_ | with_reducible refine Ext.drewN ?_ _ | with_reducible refine Ext.alloc ?_ _ | with_reducible refine Ext.set2 ?_ (by omega) _ _ | with_reducible refine Ext.setCell ?_ (by first | omega | (simp; done) | (simp; omega)) _ | with_reducible refine Ext.trans ?_ (by with_reducible assumption)))))).mono ?_); rintro e w2 ⟨A2, n2, c2, rfl, hm, he1⟩) | (go_at_call 95; (with_reducible refine (of_nat _ _ _ _ (by omega) hm).mono ?_); rintro e w3 ⟨s3, A3, n3, c3, rfl, hm3, he3⟩; have hq3 := (hB3.ext (show Ext W w3 by (repeat (first | with_reducible assumption | with_reducible exact Ext.refl _ | with_reducible refine Ext.drew ?_ | with_reducible refine Ext.drewN ?_ _ | with_reducible refine Ext.alloc ?_ _ | with_reducible refine Ext.set2 ?_ (by omega) _ _ | with_reducible refine Ext.setCell ?_ (by first | omega | (simp; done) | (simp; omega)) _ | with_reducible refine Ext.trans ?_ (by with_reducible assumption))))).two))
      go_wp2
      refine bodyPost_ret (v := .agg #[.bool s3, .slice A3 n3 c3]) (by simp [results, Tryz.results77, go_sem, hq3]) rfl ?_
      have hEE : Ext W w3 := by (repeat (first | with_reducible assumption | with_reducible exact Ext.refl _ | with_reducible refine Ext.drew ?_ | with_reducible refine Ext.drewN ?_ _ | with_reducible refine Ext.alloc ?_ _ | with_reducible refine Ext.set2 ?_ (by omega) _ _ | with_reducible refine Ext.setCell ?_ (by first | omega | (simp; done) | (simp; omega)) _ | with_reducible refine Ext.trans ?_ (by with_reducible assumption)))
      rw [HF.out] at hm3
      exact RInt.close hE hEE hB3 (by omega) hm3
    · have hle : y.natAbs ≤ x.natAbs := by omega
      have HF := Lib.hid (signed_add_ge hne hle)
      rw [← hs] at HF
      have hi : ¬ icmp (x.natAbs : Int) (y.natAbs : Int) < 0 := by
        rcases Nat.lt_or_eq_of_le hle with h | h
        · rw [icmp_nat_gt h]; omega
        · rw [icmp_nat_eq h.symm]; omega
      have hml := wordsOf_len_mono (show x.natAbs - y.natAbs ≤ x.natAbs by omega)
      subst hsn
      clear h1 h2 hN hN' hs hs' hn hn' hss hne hlt
      go_enter Tryz.func77, Tryz.ntmps77
      go_wp2_with fail
      obtain ⟨W, hW⟩ : ∃ W : World, W = ((w.alloc (.cells #[.bool s, .slice A n c] 37)).alloc (.cells #[.bool (!s), .slice A' n' c'] 37)).alloc (.cells #[.bool false, .slice none 0 0] 37) := ⟨_, rfl⟩
      rw [← hW]
      have hE : Ext w W := by rw [hW]; exact (((Ext.refl w).alloc _).alloc _).alloc _
      have hB1 : Blk W (w.heap.size) 37 #[.bool s, .slice A n c] := by rw [hW]; exact ((Blk.newAt _ _ _ (by simp)).alloc _).alloc _
      have hB2 : Blk W (w.heap.size + 1) 37 #[.bool (!s), .slice A' n' c'] := by rw [hW]; exact (Blk.newAt _ _ _ (by simp)).alloc _
      have hB3 : Blk W (w.heap.size + 1 + 1) 37 #[.bool false, .slice none 0 0] := by rw [hW]; exact Blk.newAt _ _ _ (by simp)
      clear hW
      have HK : Hid (∀ w', Ext W w' → Ext w w' ∧ w'.cell? ⟨w.heap.size, 0, none⟩ = some (.bool s) ∧ w'.cell? ⟨w.heap.size, 1, none⟩ = some (.slice A n c) ∧ w'.cell? ⟨w.heap.size + 1, 0, none⟩ = some (.bool (!s)) ∧ w'.cell? ⟨w.heap.size + 1, 1, none⟩ = some (.slice A' n' c')) := fun w' h => ⟨hE.trans h, (hB1.ext h).cell 0, (hB1.ext h).cell 1, (hB2.ext h).cell 0, (hB2.ext h).cell 1⟩
      have HK2 : Hid (∀ w' w'', w'.grownBy w'' (some (w.heap.size + 1 + 1)) → Ext W w' → Ext w w'' ∧ w''.cell? ⟨w.heap.size, 0, none⟩ = some (.bool s) ∧ w''.cell? ⟨w.heap.size, 1, none⟩ = some (.slice A n c) ∧ w''.cell? ⟨w.heap.size + 1, 0, none⟩ = some (.bool (!s)) ∧ w''.cell? ⟨w.heap.size + 1, 1, none⟩ = some (.slice A' n' c')) := fun w' w'' hg h => ⟨(hE.trans h).grown hg (by intro k hk; injection hk with hk; omega), (hg.cell_far ⟨w.heap.size, 0, none⟩ (hB1.ext h).lt (by first | (simp; done) | (simp; omega))).trans ((hB1.ext h).cell 0), (hg.cell_far ⟨w.heap.size, 1, none⟩ (hB1.ext h).lt (by first | (simp; done) | (simp; omega))).trans ((hB1.ext h).cell 1), (hg.cell_far ⟨w.heap.size + 1, 0, none⟩ (hB2.ext h).lt (by first | (simp; done) | (simp; omega))).trans ((hB2.ext h).cell 0), (hg.cell_far ⟨w.heap.size + 1, 1, none⟩ (hB2.ext h).lt (by first | (simp; done) | (simp; omega))).trans ((hB2.ext h).cell 1)⟩
      have hq0 := HK.out W (Ext.refl W)
      go_quiet (fail)
      go_wp2_with fail
      refine (cmp_nat _ _ _ _ _ (by omega) (by omega) (H1.out.ext (by (repeat (first | with_reducible assumption | with_reducible exact Ext.refl _ | with_reducible refine Ext.drew ?_ | with_reducible refine Ext.drewN ?_ _ | with_reducible refine Ext.alloc ?_ _ | with_reducible refine Ext.set2 ?_ (by omega) _ _ | with_reducible refine Ext.setCell ?_ (by first | omega | (simp; done) | (simp; omega)) _ | with_reducible refine Ext.trans ?_ (by with_reducible assumption))))) (H2.out.ext (by (repeat (first | with_reducible assumption | with_reducible exact Ext.refl _ | with_reducible refine Ext.drew ?_ | with_reducible refine Ext.drewN ?_ _ | with_reducible refine Ext.alloc ?_ _ | with_reducible refine Ext.set2 ?_ (by omega) _ _ | with_reducible refine Ext.setCell ?_ (by first | omega | (simp; done) | (simp; omega)) _ | with_reducible refine Ext.trans ?_ (by with_reducible assumption)))))).mono ?_
      rintro e w2 ⟨rfl, nd, rfl⟩
      go_wp2_with fail
      go_region_held3 (fun w' => Ext w w' ∧ w'.cell? ⟨w.heap.size, 0, none⟩ = some (.bool s) ∧ w'.cell? ⟨w.heap.size, 1, none⟩ = some (.slice A n c) ∧ w'.cell? ⟨w.heap.size + 1, 0, none⟩ = some (.bool (!s)) ∧ w'.cell? ⟨w.heap.size + 1, 1, none⟩ = some (.slice A' n' c'))
        (first | (refine HK.out _ ?_; (repeat (first | with_reducible assumption | with_reducible exact Ext.refl _ | with_reducible refine Ext.drew ?_ | with_reducible refine Ext.drewN ?_ _ | with_reducible refine Ext.alloc ?_ _ | with_reducible refine Ext.set2 ?_ (by omega) _ _ | with_reducible refine Ext.setCell ?_ (by first | omega | (simp; done) | (simp; omega)) _ | with_reducible refine Ext.trans ?_ (by with_reducible assumption))); done) | exact HK2.out _ _ (by (repeat (first | apply grow_set | exact World.grownBy.refl _ _))) (by (repeat (first | with_reducible assumption | with_reducible exact Ext.refl _ | with_reducible refine Ext.drew ?_ | with_reducible refine Ext.drewN ?_ _ | with_reducible refine Ext.alloc ?_ _ | with_reducible refine Ext.set2 ?_ (by omega) _ _ | with_reducible refine Ext.setCell ?_ (by first | omega | (simp; done) | (simp; omega)) _ | with_reducible refine Ext.trans ?_ (by with_reducible assumption)))))
        (first | (go_at_call 113; (with_reducible refine (sub_nat _ _ _ _ _ (by omega) hle (H1.out.ext (by (repeat (first | with_reducible assumption | with_reducible exact Ext.refl _ | with_reducible refine Ext.drew ?_ | with_reducible refine Ext.drewN ?_ _ | with_reducible refine Ext.alloc ?_ _ | with_reducible refine Ext.set2 ?_ (by omega) _ _ | with_reducible refine Ext.setCell ?_ (by first | omega | (simp; done) | (simp; omega)) _ | with_reducible refine Ext.trans ?_ (by with_reducible assumption))))) (H2.out.ext (by (repeat (first | with_reducible assumption | with_reducible exact Ext.refl _ | with_reducible refine Ext.drew ?_ | with_reducible refine Ext.drewN ?_ _ | with_reducible refine Ext.alloc ?_ _ | with_reducible refine Ext.set2 ?_ (by omega) _ _ | with_reducible refine Ext.setCell ?_ (by first | omega | (simp; done) | (simp; omega)) _ | with_reducible refine Ext.trans ?_ (by with_reducible assumption)))))).mono ?_); rintro e w2 ⟨A2, n2, c2, rfl, hm, he1⟩) | (go_at_call 95; (with_reducible refine (of_nat _ _ _ _ (by omega) hm).mono ?_); rintro e w3 ⟨s3, A3, n3, c3, rfl, hm3, he3⟩; have hq3 := (hB3.ext (show Ext W w3 by (repeat (first | with_reducible assumption | with_reducible exact Ext.refl _ | with_reducible refine Ext.drew ?_ | with_reducible refine Ext.drewN ?_ _ | with_reducible refine Ext.alloc ?_ _ | with_reducible refine Ext.set2 ?_ (by omega) _ _ | with_reducible refine Ext.setCell ?_ (by first | omega | (simp; done) | (simp; omega)) _ | with_reducible refine Ext.trans ?_ (by with_reducible assumption))))).two))
      go_wp2
      refine bodyPost_ret (v := .agg #[.bool s3, .slice A3 n3 c3]) (by simp [results, Tryz.results77, go_sem, hq3]) rfl ?_
      have hEE : Ext W w3 := by (repeat (first | with_reducible assumption | with_reducible exact Ext.refl _ | with_reducible refine Ext.drew ?_ | with_reducible refine Ext.drewN ?_ _ | with_reducible refine Ext.alloc ?_ _ | with_reducible refine Ext.set2 ?_ (by omega) _ _ | with_reducible refine Ext.setCell ?_ (by first | omega | (simp; done) | (simp; omega)) _ | with_reducible refine Ext.trans ?_ (by with_reducible assumption)))
      rw [HF.out] at hm3
      exact RInt.close hE hEE hB3 (by omega) hm3

end Go.Proofs.YtekipapkcgoieaaGreatDoor
