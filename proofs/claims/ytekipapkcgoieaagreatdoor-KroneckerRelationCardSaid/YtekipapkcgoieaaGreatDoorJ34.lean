/-
  count.forms: what it yields; count.Hurwitz.
-/
import Derived.Test.YtekipapkcgoieaaGreatDoorJ11
import Derived.RangeFuncNested
import Derived.RangeFuncBound
import Derived.RangeFuncCalls
import Derived.RangeFuncLeaves
import Derived.Shelf.Abstract
import Derived.Shelf.RegionOpen
import Derived.OwnWalkIn
import Derived.TacticsInMore
import Derived.LoopNIn
import Derived.LoopIn
import Derived.Maps.OwnIn
import Derived.Sort.CutIn
import Derived.IntWalk
set_option linter.unusedVariables false
set_option linter.unusedSimpArgs false

/- count.forms: what it yields; count.Hurwitz. -/
namespace Go.Proofs.YtekipapkcgoieaaGreatDoor
open Go.RowKit Go.Maps
attribute [local go_sem ↓] Go.wp_at_zero Go.wp_at_succ

theorem forms_any (n : Int) (w : World) :
    Calls Tryz.prog 65 #[.int .i64 n] w fun e w' => e = .returned (.func (.func 103) #[] #[.pointer (some ⟨w.heap.size, 0, none⟩)]) ∧ w' = w.alloc (.cells #[.int .i64 n] 2) := by
  go_enter Tryz.func65, Tryz.ntmps65
  go_wp2
  go_ret
  exact ⟨rfl, rfl⟩

set_option maxRecDepth 100000 in
set_option maxHeartbeats 4000000 in
/-- What the iterator yields, one after the other: the forms of the reference's list. -/
theorem forms1_in (n : Int) (m l b1 : Nat) (w0 : World) (J : List (Int × Int × Int) → World → Prop) (hn0 : 0 ≤ n) (hn : n ≤ 10000)
    (hc : ∀ fs W, J fs W → W.cell? ⟨b1, 0, none⟩ = some (.int .i64 n))
    (hY : ∀ fs (a b c : Int) W, J fs W → YieldAt Fence.wide (m - 1) Tryz.prog l #[.agg #[.int .i64 a, .int .i64 b, .int .i64 c]] W fun e W' => e = .returned (.bool true) ∧ J (fs ++ [(a, b, c)]) W')
    (hJ0 : J [] w0) :
    CallsIn Fence.wide m Tryz.prog 103 #[.func (.yield l) #[] #[], .pointer (some ⟨b1, 0, none⟩)] w0 fun e W' => (∃ v, e = .returned v) ∧ ∃ k : Nat, 3 * ((k : Int) * k) ≤ n ∧ n < 3 * (((k : Int) + 1) * (k + 1)) ∧ J (accA n k) W' := by
  have HC := Lib.hid hc
  have HY := Lib.hid hY
  have HJ0 := Lib.hid hJ0
  clear hc hY hJ0
  refine callsIn_of_wp Tryz.func103 rfl trivial ?_ rfl
  simp only [Tryz.ntmps103, List.size_toArray, List.length_cons, List.length_nil, Nat.reduceAdd, Nat.reduceSub, Array.replicate_succ, Array.replicate_zero, List.push_toArray, List.append_toArray, List.nil_append, List.cons_append]
  gi_wp2
  gi_loopw [3] (fun a wr => ∃ (k : Nat) (z : Int), a = .int .i64 z ∧ Hid (z = (k : Int) + 1) ∧ 1 ≤ z ∧ 3 * ((k : Int) * k) ≤ n ∧ Hid (J (accA n k) wr)) (fun a _ => (100 - intOf a).toNat)
  case atStart => exact ⟨0, 1, rfl, rfl, by omega, by simpa using hn0, HJ0⟩
  case round =>
    obtain ⟨k, z, rfl, hz, hz1, hk, hJ⟩ := hrel
    have hk60 := k_bound hk hn
    have hz61 : z ≤ 61 := by have := hz.out; omega
    have hzz : 0 ≤ z * z ∧ z * z ≤ 61 * 61 := ⟨Int.mul_nonneg (by omega) (by omega), Int.mul_le_mul hz61 hz61 (by omega) (by omega)⟩
    obtain ⟨p, hp, hp0, hp1⟩ : ∃ p : Int, 3 * z * z = p ∧ 0 ≤ p ∧ p ≤ 11163 := ⟨_, rfl, by rw [Int.mul_assoc]; omega, by rw [Int.mul_assoc]; omega⟩
    have c0 := HC.out _ _ hJ.out
    clear hzz
    by_cases hpn : p ≤ n
    · gi_wp2
      gi_loopw [4] (fun b wr => ∃ (j : Nat) (y : Int), b = .int .i64 y ∧ Hid (y = 1 - z + j) ∧ -60 ≤ y ∧ y ≤ z + 1 ∧ Hid (J (accA n k ++ rowA n z j) wr)) (fun b _ => (200 - intOf b).toNat)
      case atStart => exact ⟨0, 1 - z, rfl, by show _ = _; simp, by omega, by omega, Lib.hid (by simpa [rowA] using hJ.out)⟩
      case round =>
        clear c0
        obtain ⟨j, y, rfl, hy, hy1, hy2, hJ2⟩ := hrel
        have c0 := HC.out _ _ hJ2.out
        obtain ⟨q, hq, hq0, hq1⟩ : ∃ q : Int, y * y = q ∧ 0 ≤ q ∧ q ≤ 3844 := by
          obtain ⟨m, hm⟩ : ∃ m : Nat, y.natAbs = m := ⟨_, rfl⟩
          have hm62 : m ≤ 62 := by omega
          have h1 : m * m ≤ 62 * 62 := Nat.mul_le_mul hm62 hm62
          have h2 : ((m * m : Nat) : Int) = y * y := by rw [← hm]; exact Int.natAbs_mul_self
          exact ⟨_, rfl, by omega, by omega⟩
        obtain ⟨d, hd, hd0, hd1⟩ : ∃ d : Int, (q + n) / (4 * z) = d ∧ 0 ≤ d ∧ d ≤ 13844 := ⟨_, rfl, Int.ediv_nonneg (by omega) (by omega), Int.le_trans (Int.ediv_le_self _ (by omega)) (by omega)⟩
        obtain ⟨r, hr, hr0⟩ : ∃ r : Int, (q + n) % (4 * z) = r ∧ 0 ≤ r := ⟨_, rfl, Int.emod_nonneg _ (by omega)⟩
        have hr1 : r < 4 * z := by rw [← hr]; exact Int.emod_lt_of_pos _ (by omega)
        have hd2 : (q + n).tdiv (4 * z) = d := by rw [Int.tdiv_eq_ediv_of_nonneg (by omega)]; exact hd
        have hr2 : (q + n).tmod (4 * z) = r := by rw [Int.tmod_eq_emod_of_nonneg (by omega)]; exact hr
        have hz4 : ((4 * z : Int) == 0) = false := by rw [beq_eq_false_iff_ne]; omega
        have HF := Lib.hid (show formAt n z (1 - z + j) = if r = 0 ∧ z ≤ d ∧ (0 ≤ y ∨ z < d) then some (z, y, d) else none by unfold formAt; rw [← hy.out, hq, hd, hr])
        by_cases hyz : y ≤ z
        · have hD := Lib.hid (show rowA n z (j + 1) = rowA n z j ++ (if r = 0 ∧ z ≤ d ∧ (0 ≤ y ∨ z < d) then some (z, y, d) else none).toList by rw [rowA_succ, HF.out])
          have SK := Lib.hid (fun (h : ¬ (r = 0 ∧ z ≤ d ∧ (0 ≤ y ∨ z < d))) => (show accA n k ++ rowA n z (j + 1) = accA n k ++ rowA n z j by rw [hD.out, if_neg h]; simp))
          have TK := Lib.hid (fun (h : r = 0 ∧ z ≤ d ∧ (0 ≤ y ∨ z < d)) => (show accA n k ++ rowA n z (j + 1) = accA n k ++ rowA n z j ++ [(z, y, d)] by rw [hD.out, if_pos h]; simp))
          clear HF hD
          obtain ⟨fn, tmps, assign, body, hy9, hR⟩ := HY.out _ z y d wr hJ2.out
          have tri : (∃ bb : Bool, (z == d) = bb ∧ (bb = true → z ≤ d ∧ d ≤ z) ∧ (bb = false → z < d ∨ d < z)) := by
            by_cases h : z = d
            · exact ⟨true, by simp [h], fun _ => by omega, fun h => by cases h⟩
            · exact ⟨false, by simp [h], (fun h => by cases h), fun _ => by omega⟩
          obtain ⟨bb, hbb, ht1, ht2⟩ := tri
          cases bb
          all_goals (first | (have ht3 := ht1 rfl; clear ht1 ht2) | (have ht3 := ht2 rfl; clear ht1 ht2))
          all_goals gi_wp2_with fail
          all_goals first
            | (have hy3 := hy.out; (refine ⟨⟨j + 1, y + 1, rfl, ?_, ?_, ?_, ?_⟩, ?_⟩ <;> first | omega | (show _ = _; push_cast; omega) | (exact Lib.hid (by rw [SK.out (by omega)]; exact hJ2.out)) | (simp [intOf] <;> omega)); done)
            | (refine ⟨(fun h => by cases h), hR.mono ?_⟩
               rintro e w4 ⟨rfl, hJ4⟩
               have HJ4 := Lib.hid (show J (accA n k ++ rowA n z (j + 1)) w4 by rw [TK.out (by omega)]; exact hJ4)
               clear hy9 hR hJ4
               gi_wp2
               go_roundw
               case rel => exact ⟨j + 1, y + 1, by go_num, by (show _ = _; have hy3 := hy.out; push_cast; omega), by omega, by omega, HJ4⟩
               case measure => (simp [intOf] <;> omega))
        · have hLk : accA n k ++ rowA n z j = accA n (k + 1) := by
            have h1 := hy.out
            have h2 := hz.out
            rw [accA_succ]
            obtain rfl : j = 2 * (k + 1) := by omega
            rw [h2]
          have hpk : 3 * (((k + 1 : Nat) : Int) * ((k + 1 : Nat) : Int)) ≤ n := by
            have h2 := hz.out
            push_cast
            rw [← h2, ← Int.mul_assoc, hp]; exact hpn
          have HP := Lib.hid hpk
          have HJ5 := Lib.hid (show J (accA n (k + 1)) wr by rw [← hLk]; exact hJ2.out)
          clear hpk hLk
          gi_wp2
          go_roundw
          case rel => exact ⟨k + 1, z + 1, by go_num, by (show _ = _; have := hz.out; push_cast; omega), by omega, HP.out, HJ5⟩
          case measure => (simp [intOf] <;> omega)
    · have HP := Lib.hid (show n < 3 * (((k : Int) + 1) * (k + 1)) by rw [← hz.out, ← Int.mul_assoc, hp]; omega)
      gi_wp2
      go_end0
      exact ⟨⟨_, rfl⟩, k, hk, HP.out, hJ.out⟩

end Go.Proofs.YtekipapkcgoieaaGreatDoor
