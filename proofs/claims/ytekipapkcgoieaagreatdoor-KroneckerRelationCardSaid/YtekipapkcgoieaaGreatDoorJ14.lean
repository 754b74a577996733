/-
  Fractions whose denominators divide twelve.
-/
import Derived.Test.YtekipapkcgoieaaGreatDoorJ13
set_option linter.unusedVariables false
set_option linter.unusedSimpArgs false

/- Fractions whose denominators divide twelve. -/
namespace Go.Proofs.YtekipapkcgoieaaGreatDoor
open Go.RowKit

/-- A number of twelfths, of a size. -/
def Tw (M : Nat) (q : Rat) : Prop := ∃ z : Int, q = mkRat z 12 ∧ z.natAbs ≤ M
theorem mk12_add (a b : Int) : mkRat a 12 + mkRat b 12 = mkRat (a + b) 12 := by
  rw [Rat.mkRat_eq_div, Rat.mkRat_eq_div, Rat.mkRat_eq_div, Rat.intCast_add, Rat.div_def, Rat.div_def, Rat.div_def, Rat.add_mul]
theorem mk12_mul (a v : Int) : mkRat a 12 * (v : Rat) = mkRat (a * v) 12 := by
  rw [Rat.mkRat_eq_div, Rat.mkRat_eq_div, Rat.intCast_mul, Rat.div_def, Rat.div_def, Rat.mul_assoc, Rat.mul_assoc]
  congr 1
  exact Rat.mul_comm _ _
theorem Tw.den {M : Nat} {q : Rat} (h : Tw M q) : q.den ≤ 12 := by
  obtain ⟨z, rfl, _⟩ := h
  have h1 := mk_den z (d := 12) (by decide)
  have h2 : (12 : Int) / (Int.gcd z 12 : Int) ≤ 12 := Int.ediv_le_self _ (by decide)
  have h3 : ((12 : Nat) : Int) = 12 := rfl
  rw [h3] at h1
  omega
theorem Tw.num {M : Nat} {q : Rat} (h : Tw M q) : q.num.natAbs ≤ M := by
  obtain ⟨z, rfl, hz⟩ := h
  rw [Rat.num_mkRat]
  exact Nat.le_trans (by simpa using Int.natAbs_ediv_le_natAbs _ _) hz
theorem Tw.add {M N : Nat} {p q : Rat} (h : Tw M p) (k : Tw N q) : Tw (M + N) (p + q) := by
  obtain ⟨a, rfl, ha⟩ := h
  obtain ⟨b, rfl, hb⟩ := k
  exact ⟨a + b, mk12_add a b, by omega⟩
theorem Tw.mul {M N : Nat} {p : Rat} {v : Int} (h : Tw M p) (k : v.natAbs ≤ N) : Tw (M * N) (p * (v : Rat)) := by
  obtain ⟨a, rfl, ha⟩ := h
  exact ⟨a * v, mk12_mul a v, by rw [Int.natAbs_mul]; exact Nat.mul_le_mul ha k⟩
theorem Tw.zero (M : Nat) : Tw M 0 := ⟨0, by decide, by simp⟩
theorem Tw.mono {M N : Nat} {q : Rat} (h : Tw M q) (k : M ≤ N) : Tw N q := by
  obtain ⟨z, e, hz⟩ := h; exact ⟨z, e, Nat.le_trans hz k⟩

end Go.Proofs.YtekipapkcgoieaaGreatDoor
