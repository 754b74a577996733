/-
  The program's parts of an audit are the reference's.
-/
import Derived.Test.YtekipapkcgoieaaGreatDoorJ13
set_option linter.unusedVariables false
set_option linter.unusedSimpArgs false

/- The program's parts of an audit are the reference's. -/
namespace Go.Proofs.YtekipapkcgoieaaGreatDoor

theorem sq_eq_iff {a : Int} {t : Nat} : a * a = (t : Int) * t ↔ a = t ∨ a = -(t : Int) := by
  constructor
  · intro h
    have h2 : a.natAbs * a.natAbs = t * t := by
      have := congrArg Int.natAbs h
      rw [Int.natAbs_mul, Int.natAbs_mul, Int.natAbs_natCast] at this
      exact this
    have h3 : a.natAbs = t := by
      rcases Nat.lt_trichotomy a.natAbs t with h4 | h4 | h4
      · have := Nat.mul_lt_mul'' h4 h4; omega
      · exact h4
      · have := Nat.mul_lt_mul'' h4 h4; omega
    omega
  · rintro (rfl | rfl)
    · rfl
    · exact Int.neg_mul_neg _ _
theorem cnt_sq (N n2 t : Nat) : ∀ j : Nat, cnt N ((N : Int) - (t : Int) * t) n2 j = (if n2 < j + t ∧ t ≤ n2 then 1 else 0) + (if 0 < t ∧ n2 + t < j then 1 else 0)
  | 0 => by simp only [cnt]; rw [if_neg (by omega), if_neg (by omega)]
  | j + 1 => by
    simp only [cnt]
    rw [cnt_sq N n2 t j]
    have h : (((N : Int) - (t : Int) * t = N - ((j : Int) - n2) * ((j : Int) - n2)) ↔ ((j : Int) - n2 = t ∨ (j : Int) - n2 = -(t : Int))) := by
      rw [← sq_eq_iff]; omega
    by_cases h1 : (j : Int) - n2 = t ∨ (j : Int) - n2 = -(t : Int)
    · rw [if_pos (h.2 h1)]
      split <;> split <;> split <;> split <;> omega
    · rw [if_neg (fun h2 => h1 (h.1 h2))]
      split <;> split <;> split <;> split <;> omega
theorem cnt_none (N n2 : Nat) (m : Int) (h : ∀ t : Nat, m ≠ (N : Int) - (t : Int) * t) : ∀ j : Nat, cnt N m n2 j = 0
  | 0 => rfl
  | j + 1 => by
    simp only [cnt]
    rw [cnt_none N n2 m h j, if_neg]
    intro h2
    have := h ((j : Int) - n2).natAbs
    rw [Int.natAbs_mul_self'] at this
    exact this h2
theorem partM_sq (n t : Nat) (ht : t * t ≤ 4 * n) : partM n (4 * n - t * t) = some (partK n t) := by
  have h2n : t ≤ 2 * n := by
    rcases Nat.lt_or_ge (2 * n) t with h | h
    · have h3 := Nat.mul_le_mul h h
      have h4 : (2 * n + 1) * (2 * n + 1) = 4 * (n * n) + 4 * n + 1 := by
        rw [Nat.add_mul, Nat.mul_add, Nat.mul_mul_mul_comm]; omega
      have h5 : (2 * n).succ * (2 * n).succ = (2 * n + 1) * (2 * n + 1) := rfl
      omega
    · exact h
  have e : ((4 * n - t * t : Nat) : Int) = ((4 * n : Nat) : Int) - (t : Int) * t := by
    rw [Int.ofNat_sub ht, Int.natCast_mul t t]
  have hc := cnt_sq (4 * n) (2 * n) t (4 * n + 1)
  rw [← e] at hc
  unfold partM
  have hc2 : cnt (4 * (n : Int)) ((4 * n - t * t : Nat) : Int) (2 * (n : Int)) (4 * n + 1) = if t = 0 then 1 else 2 := by
    have e1 : (4 * (n : Int)) = ((4 * n : Nat) : Int) := by omega
    have e2 : (2 * (n : Int)) = ((2 * n : Nat) : Int) := by omega
    rw [e1, e2, hc]
    split <;> split <;> split <;> omega
  rw [hc2]
  unfold partK
  by_cases h0 : t = 0
  · rw [if_pos h0, if_pos h0]; rfl
  · rw [if_neg h0, if_neg h0]
    rw [if_pos (by decide)]
    congr 1
theorem partM_none (n m : Nat) (h : ∀ t : Nat, m + t * t ≠ 4 * n) : partM n m = none := by
  unfold partM
  have hc := cnt_none (4 * n) (2 * n) m (fun t he => h t (by
    have : (m : Int) + ((t * t : Nat) : Int) = ((4 * n : Nat) : Int) := by rw [Int.natCast_mul t t]; omega
    omega)) (4 * n + 1)
  have e1 : (4 * (n : Int)) = ((4 * n : Nat) : Int) := by omega
  have e2 : (2 * (n : Int)) = ((2 * n : Nat) : Int) := by omega
  rw [e1, e2, hc]
  rfl
theorem filterMap_none {α β : Type} (f : α → Option β) : ∀ (l : List α), (∀ x ∈ l, f x = none) → l.filterMap f = []
  | [], _ => rfl
  | x :: l, h => by rw [List.filterMap_cons, h x (List.mem_cons_self ..)]; exact filterMap_none f l fun y hy => h y (List.mem_cons_of_mem _ hy)
theorem parts_from (n : Nat) : ∀ T, (∀ i, i < T + 1 → i * i ≤ 4 * n) → (partsK n (T + 1)).reverse = (List.range' (4 * n - T * T) (T * T + 1)).filterMap (partM n)
  | 0, h => by
    have := partM_sq n 0 (by omega)
    simp only [Nat.zero_mul, Nat.sub_zero] at this ⊢
    simp [partsK, List.range', this, List.range_succ]
  | T + 1, h => by
    have ht := h (T + 1) (by omega)
    have ih := parts_from n T (fun i hi => h i (by omega))
    have hs : (T + 1) * (T + 1) = T * T + (2 * T + 1) := by rw [Nat.add_mul, Nat.mul_add]; omega
    rw [partsK_succ, List.reverse_append, List.reverse_singleton, ih, hs, show T * T + (2 * T + 1) + 1 = 1 + (2 * T + (T * T + 1)) by omega,
      ← List.range'_append_1 (s := 4 * n - (T * T + (2 * T + 1))) (m := 1), ← List.range'_append_1 (m := 2 * T), List.filterMap_append, List.filterMap_append]
    have hp := partM_sq n (T + 1) ht
    rw [hs] at hp ht
    have h1 : (List.range' (4 * n - (T * T + (2 * T + 1))) 1).filterMap (partM n) = [partK n (T + 1)] := by
      simp [List.range', hp]
    have h2 : (List.range' (4 * n - (T * T + (2 * T + 1)) + 1) (2 * T)).filterMap (partM n) = [] := by
      refine filterMap_none _ _ fun m hm => partM_none n m fun t he => ?_
      rw [List.mem_range'_1] at hm
      have a1 : t * t < (T + 1) * (T + 1) := by omega
      have a2 : T * T < t * t := by omega
      have a3 : t < T + 1 := by
        rcases Nat.lt_or_ge t (T + 1) with h | h
        · exact h
        · have := Nat.mul_le_mul h h; omega
      have a4 : T < t := by
        rcases Nat.lt_or_ge T t with h | h
        · exact h
        · have := Nat.mul_le_mul h h; omega
      omega
    rw [h1, h2, List.nil_append, show 4 * n - (T * T + (2 * T + 1)) + 1 + 2 * T = 4 * n - T * T by omega]
/-- The program's parts and the reference's. -/
theorem partsK_eq (n T : Nat) (h1 : ∀ i, i < T → i * i ≤ 4 * n) (h2 : 4 * n < T * T) : (partsK n T).reverse = partsR n (4 * n + 1) := by
  obtain ⟨S, rfl⟩ : ∃ S, T = S + 1 := ⟨T - 1, by
    rcases Nat.eq_zero_or_pos T with h | h
    · subst h; omega
    · omega⟩
  have hS := h1 S (by omega)
  rw [parts_from n S h1]
  unfold partsR
  rw [List.range_eq_range', show 4 * n + 1 = (4 * n - S * S) + (S * S + 1) by omega, ← List.range'_append_1 (m := 4 * n - S * S), List.filterMap_append]
  have h3 : (List.range' 0 (4 * n - S * S)).filterMap (partM n) = [] := by
    refine filterMap_none _ _ fun m hm => partM_none n m fun t he => ?_
    rw [List.mem_range'_1] at hm
    have a1 : S < t := by
      rcases Nat.lt_or_ge S t with h | h
      · exact h
      · have := Nat.mul_le_mul h h; omega
    have := Nat.mul_le_mul a1 a1
    have e : (S.succ) = S + 1 := rfl
    rw [e] at this
    omega
  rw [h3, Nat.zero_add, List.nil_append]

end Go.Proofs.YtekipapkcgoieaaGreatDoor
