/-
  Plain arithmetic of words: the value of a list of words of 32 bits, the canonical list of a number. No program.
  Plain arithmetic: comparing two lists of words of one length from the top.
  Plain arithmetic: sums, differences and products of lists of words, word by word.
  Plain arithmetic: products of lists of words; quotients by one word.
  Arithmetic of bits of words: the borrow of a difference, the two halves of a double word.
  What values read as in memory: words, integers, fractions; and that such readings are kept by whatever leaves old blocks alone.
  trim: both programs cut zeros off at the end of a list of words; nothing in memory turns.
  Contracts of small library functions: sums and differences of words with carries, quotients of two words by one, comparisons.
  Comparing sizes: both programs.
  A sign and a size make an integer; small numbers as integers: both programs.
  The reference's sizes: a word of a list, comparisons, sums and differences.
  The program's sizes: sums and differences.
-/
import Derived.Laws.BitsAllLaws
import Derived.WalkKit
import Derived.Deep.Draws
import Derived.Laws.AppendOwn
import Derived.Deep.AppendLies
import Derived.Deep.QuietTactic
import Derived.Test.YtekipapkcgoieaaGreatDoorProg
import Derived.WalkSpells
import Derived.WalkLawsBesides
import Derived.BigQuiet
import Derived.Lib.Hide
import Derived.Maps.AppendAt
import Derived.Deep.DeepMust
import Derived.Laws.CopyOwn
import Derived.Laws.MakeOwn
set_option linter.unusedVariables false
set_option linter.unusedSimpArgs false

/- Plain arithmetic of words: the value of a list of words of 32 bits, the canonical list of a number. No program. -/
namespace Go.Proofs.YtekipapkcgoieaaGreatDoor

/-- The value of a list of words, the least significant one first. -/
def nv : List Nat → Nat
  | [] => 0
  | x :: r => x + 4294967296 * nv r

def W32 (l : List Nat) : Prop := ∀ x ∈ l, x < 4294967296

/-- A list of words without zeros at its end. -/
def Canon : List Nat → Prop
  | [] => True
  | x :: r => x < 4294967296 ∧ (r = [] → x ≠ 0) ∧ Canon r

def wordsF : Nat → Nat → List Nat
  | 0, _ => []
  | f + 1, m => if m = 0 then [] else m % 4294967296 :: wordsF f (m / 4294967296)

/-- The canonical words of a number. -/
def wordsOf (m : Nat) : List Nat := wordsF m m

theorem W32.nil : W32 [] := fun _ h => by cases h
theorem W32.cons {x : Nat} {l : List Nat} (hx : x < 4294967296) (h : W32 l) : W32 (x :: l) := by
  intro y hy
  rcases List.mem_cons.1 hy with rfl | hy
  · exact hx
  · exact h y hy
theorem W32.tail {x : Nat} {l : List Nat} (h : W32 (x :: l)) : W32 l := fun y hy => h y (List.mem_cons_of_mem _ hy)
theorem W32.head {x : Nat} {l : List Nat} (h : W32 (x :: l)) : x < 4294967296 := h x (List.mem_cons_self ..)
theorem W32.get {l : List Nat} (h : W32 l) (k : Nat) : l[k]?.getD 0 < 4294967296 := by
  cases e : l[k]? with
  | none => simp
  | some x => simpa [e] using h x (List.mem_of_getElem? e)
theorem W32.take {l : List Nat} (h : W32 l) (k : Nat) : W32 (l.take k) := fun y hy => h y (List.mem_of_mem_take hy)
theorem W32.append {a b : List Nat} (ha : W32 a) (hb : W32 b) : W32 (a ++ b) := by
  intro y hy
  rcases List.mem_append.1 hy with hy | hy
  · exact ha y hy
  · exact hb y hy

theorem nv_nil : nv [] = 0 := rfl
theorem nv_cons (x : Nat) (r : List Nat) : nv (x :: r) = x + 4294967296 * nv r := rfl
theorem nv_append (a b : List Nat) : nv (a ++ b) = nv a + 4294967296 ^ a.length * nv b := by
  induction a with
  | nil => simp [nv]
  | cons x r ih =>
    simp only [List.cons_append, nv, ih, List.length_cons, Nat.pow_succ]
    rw [Nat.mul_add, ← Nat.mul_assoc, Nat.mul_comm 4294967296 (4294967296 ^ r.length)]
    omega
theorem nv_lt {l : List Nat} (h : W32 l) : nv l < 4294967296 ^ l.length := by
  induction l with
  | nil => simp [nv]
  | cons x r ih =>
    have := ih h.tail
    have hx := h.head
    simp only [nv, List.length_cons, Nat.pow_succ]
    have h2 : nv r + 1 ≤ 4294967296 ^ r.length := this
    have := Nat.mul_le_mul_right 4294967296 h2
    omega
theorem nv_snoc (l : List Nat) (x : Nat) : nv (l ++ [x]) = nv l + 4294967296 ^ l.length * x := by
  rw [nv_append]; simp [nv]
theorem nv_replicate (n : Nat) : nv (List.replicate n 0) = 0 := by
  induction n with
  | zero => rfl
  | succ n ih => simp [List.replicate_succ, nv, ih]
theorem nv_take_zero {l : List Nat} {k : Nat} (h : ∀ j, k ≤ j → l[j]?.getD 0 = 0) : nv (l.take k) = nv l := by
  induction l generalizing k with
  | nil => simp
  | cons x r ih =>
    cases k with
    | zero =>
      have h0 := h 0 (Nat.le_refl _)
      simp at h0
      have hr : nv (r.take 0) = nv r := ih (k := 0) fun j _ => by simpa using h (j + 1) (Nat.zero_le _)
      simp [nv, h0, ← hr]
    | succ k =>
      have hr : nv (r.take k) = nv r := ih (k := k) fun j hj => by simpa using h (j + 1) (by omega)
      simp [nv, hr]

theorem Canon.w32 {l : List Nat} (h : Canon l) : W32 l := by
  induction l with
  | nil => exact W32.nil
  | cons x r ih => exact W32.cons h.1 (ih h.2.2)
theorem Canon.pos {l : List Nat} (h : Canon l) (hne : l ≠ []) : 0 < nv l := by
  induction l with
  | nil => exact absurd rfl hne
  | cons x r ih =>
    simp only [nv]
    by_cases hr : r = []
    · have := h.2.1 hr; omega
    · have := ih h.2.2 hr; omega
theorem wordsF_nv : ∀ (l : List Nat) (f : Nat), nv l ≤ f → Canon l → wordsF f (nv l) = l := by
  intro l
  induction l with
  | nil => intro f _ _; cases f <;> simp [wordsF, nv]
  | cons x r ih =>
    intro f hf hc
    have hp := hc.pos (by simp)
    have hx := hc.1
    simp only [nv] at hf hp ⊢
    cases f with
    | zero => omega
    | succ f =>
      have e1 : (x + 4294967296 * nv r) % 4294967296 = x := by omega
      have e2 : (x + 4294967296 * nv r) / 4294967296 = nv r := by omega
      simp only [wordsF, e1, e2]
      rw [if_neg (by omega), ih f (by omega) hc.2.2]
theorem wordsOf_nv {l : List Nat} (h : Canon l) : wordsOf (nv l) = l := wordsF_nv l _ (Nat.le_refl _) h
theorem wordsF_canon : ∀ (f m : Nat), m ≤ f → Canon (wordsF f m) ∧ nv (wordsF f m) = m := by
  intro f
  induction f with
  | zero => intro m hm; simp [wordsF, Canon, nv]; omega
  | succ f ih =>
    intro m hm
    unfold wordsF
    by_cases h0 : m = 0
    · simp [h0, Canon, nv]
    · rw [if_neg h0]
      obtain ⟨h1, h2⟩ := ih (m / 4294967296) (by omega)
      refine ⟨⟨by omega, fun he => ?_, h1⟩, ?_⟩
      · rw [he] at h2; simp only [nv] at h2; omega
      · simp only [nv, h2]; omega
theorem wordsOf_canon (m : Nat) : Canon (wordsOf m) := (wordsF_canon m m (Nat.le_refl _)).1
theorem nv_wordsOf (m : Nat) : nv (wordsOf m) = m := (wordsF_canon m m (Nat.le_refl _)).2
theorem wordsOf_w32 (m : Nat) : W32 (wordsOf m) := (wordsOf_canon m).w32
theorem wordsOf_zero : wordsOf 0 = [] := rfl
theorem wordsOf_eq_nil {m : Nat} : wordsOf m = [] ↔ m = 0 := by
  constructor
  · intro h; have := nv_wordsOf m; rw [h] at this; simpa [nv] using this.symm
  · rintro rfl; rfl
theorem wordsOf_inj {a b : Nat} (h : wordsOf a = wordsOf b) : a = b := by rw [← nv_wordsOf a, h, nv_wordsOf]
theorem wordsOf_len0 {m : Nat} : (wordsOf m).length = 0 ↔ m = 0 := by rw [List.length_eq_zero_iff, wordsOf_eq_nil]
theorem wordsOf_pos {m : Nat} : 0 < (wordsOf m).length ↔ 0 < m := by have := @wordsOf_len0 m; omega

/-- A canonical list is at most as long as its value needs. -/
theorem Canon.len_le {l : List Nat} (h : Canon l) (k : Nat) (hk : nv l < 4294967296 ^ k) : l.length ≤ k := by
  induction l generalizing k with
  | nil => simp
  | cons x r ih =>
    have hp := h.pos (by simp)
    cases k with
    | zero => simp at hk; omega
    | succ k =>
      simp only [nv, Nat.pow_succ] at hk
      have : nv r < 4294967296 ^ k := by
        rcases Nat.lt_or_ge (nv r) (4294967296 ^ k) with h1 | h1
        · exact h1
        · have := Nat.mul_le_mul_right 4294967296 h1; omega
      simpa using ih h.2.2 k this
theorem wordsOf_len_le (m k : Nat) (h : m < 4294967296 ^ k) : (wordsOf m).length ≤ k := (wordsOf_canon m).len_le k (by rw [nv_wordsOf]; exact h)
theorem wordsOf_lt (m : Nat) : m < 4294967296 ^ (wordsOf m).length := by
  have := nv_lt (wordsOf_w32 m); rwa [nv_wordsOf] at this
theorem wordsOf_len1 {m : Nat} (h : m < 4294967296) : (wordsOf m).length ≤ 1 := wordsOf_len_le m 1 (by simpa using h)
theorem wordsOf_len2 {m : Nat} (h : m < 18446744073709551616) : (wordsOf m).length ≤ 2 := wordsOf_len_le m 2 (by simpa using h)
theorem wordsOf_one {m : Nat} (h0 : 0 < m) (h : m < 4294967296) : wordsOf m = [m] := by
  have hc : Canon [m] := ⟨h, fun _ => by omega, trivial⟩
  have := wordsOf_nv hc
  simpa [nv] using this
theorem wordsOf_two {m : Nat} (h0 : 4294967296 ≤ m) (h : m < 18446744073709551616) : wordsOf m = [m % 4294967296, m / 4294967296] := by
  have hc : Canon [m % 4294967296, m / 4294967296] := ⟨by omega, (fun h => by cases h), by omega, fun _ => by omega, trivial⟩
  have := wordsOf_nv hc
  rw [← this]; congr 1; simp [nv]; omega

/-- The list cut behind its last word that is not 0. -/
theorem Canon.of_take {l : List Nat} (h : W32 l) (k : Nat) (hk : k ≤ l.length) (hl : 0 < k → l[k - 1]?.getD 0 ≠ 0) : Canon (l.take k) := by
  induction l generalizing k with
  | nil => simp [Canon]
  | cons x r ih =>
    cases k with
    | zero => simp [Canon]
    | succ k =>
      simp only [List.take_succ_cons]
      refine ⟨h.head, fun he => ?_, ih h.tail k (by simpa using hk) fun hp => ?_⟩
      · have hk0 : k = 0 := by
          have := congrArg List.length he
          simp at this hk
          rcases this with h1 | h1
          · exact h1
          · subst h1; simpa using hk
        subst hk0
        simpa using hl (by omega)
      · have := hl (by omega)
        obtain ⟨k', rfl⟩ : ∃ k', k = k' + 1 := ⟨k - 1, by omega⟩
        simpa using this
theorem take_trim {l : List Nat} (h : W32 l) (k : Nat) (hk : k ≤ l.length) (hl : 0 < k → l[k - 1]?.getD 0 ≠ 0) (hz : ∀ j, k ≤ j → l[j]?.getD 0 = 0) : l.take k = wordsOf (nv l) := by
  rw [← nv_take_zero hz, wordsOf_nv (Canon.of_take h k hk hl)]

/-- Lengths of canonical lists and the order of their values. -/
theorem canon_len_lt {a b : List Nat} (ha : Canon a) (hb : Canon b) (h : a.length < b.length) : nv a < nv b := by
  rcases Nat.lt_or_ge (nv a) (nv b) with h1 | h1
  · exact h1
  · have := hb.len_le a.length (Nat.lt_of_le_of_lt h1 (nv_lt ha.w32))
    omega
theorem wordsOf_len_mono {a b : Nat} (h : a ≤ b) : (wordsOf a).length ≤ (wordsOf b).length :=
  wordsOf_len_le a _ (Nat.lt_of_le_of_lt h (wordsOf_lt b))
theorem wordsOf_len_add (a b : Nat) : (wordsOf (a + b)).length ≤ max (wordsOf a).length (wordsOf b).length + 1 := by
  apply wordsOf_len_le
  have h1 : a < 4294967296 ^ (max (wordsOf a).length (wordsOf b).length) := Nat.lt_of_lt_of_le (wordsOf_lt a) (Nat.pow_le_pow_right (by omega) (Nat.le_max_left ..))
  have h2 : b < 4294967296 ^ (max (wordsOf a).length (wordsOf b).length) := Nat.lt_of_lt_of_le (wordsOf_lt b) (Nat.pow_le_pow_right (by omega) (Nat.le_max_right ..))
  rw [Nat.pow_succ]; omega
theorem wordsOf_len_mul (a b : Nat) : (wordsOf (a * b)).length ≤ (wordsOf a).length + (wordsOf b).length := by
  apply wordsOf_len_le
  rw [Nat.pow_add]
  exact Nat.mul_lt_mul'' (wordsOf_lt a) (wordsOf_lt b)

end Go.Proofs.YtekipapkcgoieaaGreatDoor

/- Plain arithmetic: comparing two lists of words of one length from the top. -/
namespace Go.Proofs.YtekipapkcgoieaaGreatDoor

theorem nv_split (l : List Nat) (i : Nat) (h : i < l.length) : nv l = nv (l.take i) + 4294967296 ^ i * (l[i]?.getD 0 + 4294967296 * nv (l.drop (i + 1))) := by
  have e : l = l.take i ++ (l[i] :: l.drop (i + 1)) := by rw [← List.drop_eq_getElem_cons h, List.take_append_drop]
  have e2 := congrArg nv e
  rw [nv_append, nv_cons, List.length_take, Nat.min_eq_left (Nat.le_of_lt h)] at e2
  rw [e2, List.getElem?_eq_getElem h]; rfl
theorem drop_eq_of {a b : List Nat} (hl : a.length = b.length) (i : Nat) (h : ∀ j, i ≤ j → a[j]?.getD 0 = b[j]?.getD 0) : a.drop i = b.drop i := by
  apply List.ext_getElem (by simp [hl])
  intro j h1 h2
  have := h (i + j) (by omega)
  simp at h1 h2
  rw [List.getElem?_eq_getElem (by omega), List.getElem?_eq_getElem (by omega)] at this
  simpa using this
theorem nv_lt_of {a b : List Nat} (ha : W32 a) (hl : a.length = b.length) (i : Nat) (hi : i < a.length) (h : ∀ j, i + 1 ≤ j → a[j]?.getD 0 = b[j]?.getD 0)
    (hlt : a[i]?.getD 0 < b[i]?.getD 0) : nv a < nv b := by
  rw [nv_split a i hi, nv_split b i (by omega), drop_eq_of hl (i + 1) h]
  have h1 := nv_lt (ha.take i)
  rw [List.length_take, Nat.min_eq_left (Nat.le_of_lt hi)] at h1
  generalize nv (b.drop (i + 1)) = t at *
  have h2 : 4294967296 ^ i * (a[i]?.getD 0 + 4294967296 * t) + 4294967296 ^ i ≤ 4294967296 ^ i * (b[i]?.getD 0 + 4294967296 * t) := by
    rw [← Nat.mul_succ]
    exact Nat.mul_le_mul_left _ (by omega)
  omega
theorem eq_of_all {a b : List Nat} (hl : a.length = b.length) (h : ∀ j, 0 ≤ j → a[j]?.getD 0 = b[j]?.getD 0) : a = b := by
  have := drop_eq_of hl 0 (fun j _ => h j (Nat.zero_le _))
  simpa using this

end Go.Proofs.YtekipapkcgoieaaGreatDoor

/- Plain arithmetic: sums, differences and products of lists of words, word by word. -/
namespace Go.Proofs.YtekipapkcgoieaaGreatDoor

theorem nv_take_succ (l : List Nat) (k : Nat) : nv (l.take (k + 1)) = nv (l.take k) + 4294967296 ^ k * (l[k]?.getD 0) := by
  by_cases h : k < l.length
  · rw [List.take_succ_eq_append_getElem h, nv_snoc, List.length_take, Nat.min_eq_left (Nat.le_of_lt h), List.getElem?_eq_getElem h]; rfl
  · rw [List.take_of_length_le (by omega), List.take_of_length_le (by omega), List.getElem?_eq_none (by omega)]; simp
theorem nv_take_all (l : List Nat) (k : Nat) (h : l.length ≤ k) : nv (l.take k) = nv l := by rw [List.take_of_length_le h]

/-- One word of a sum. -/
theorem sum_step {s a b c x y : Nat} (k : Nat) (h : s + 4294967296 ^ k * c = a + b) :
    s + 4294967296 ^ k * ((x + y + c) % 4294967296) + 4294967296 ^ (k + 1) * ((x + y + c) / 4294967296) = a + 4294967296 ^ k * x + (b + 4294967296 ^ k * y) := by
  have e : (x + y + c) % 4294967296 + 4294967296 * ((x + y + c) / 4294967296) = x + y + c := Nat.mod_add_div _ _
  rw [Nat.pow_succ, Nat.mul_assoc, Nat.add_assoc, ← Nat.mul_add, e, Nat.mul_add, Nat.mul_add]
  omega

/-- One word of a difference: d the difference's word, c the old borrow, c' the new one. -/
theorem diff_step {s a b c x y d c' : Nat} (k : Nat) (h : s + b = a + 4294967296 ^ k * c) (hd : d + y + c = x + 4294967296 * c') :
    s + 4294967296 ^ k * d + (b + 4294967296 ^ k * y) = a + 4294967296 ^ k * x + 4294967296 ^ (k + 1) * c' := by
  have e : 4294967296 ^ k * d + 4294967296 ^ k * y + 4294967296 ^ k * c = 4294967296 ^ k * x + 4294967296 ^ (k + 1) * c' := by
    rw [Nat.pow_succ, Nat.mul_assoc, ← Nat.mul_add, ← Nat.mul_add, hd, Nat.mul_add]
  omega

theorem wordsOf_le_of_nv {l : List Nat} (h : W32 l) : (wordsOf (nv l)).length ≤ l.length := wordsOf_len_le _ _ (nv_lt h)

end Go.Proofs.YtekipapkcgoieaaGreatDoor

/- Plain arithmetic: products of lists of words; quotients by one word. -/
namespace Go.Proofs.YtekipapkcgoieaaGreatDoor

theorem nv_set (l : List Nat) (j v : Nat) (h : j < l.length) : nv (l.set j v) + 4294967296 ^ j * l[j]?.getD 0 = nv l + 4294967296 ^ j * v := by
  induction l generalizing j with
  | nil => simp at h
  | cons x r ih =>
    cases j with
    | zero => simp [nv]; omega
    | succ j =>
      have := ih j (by simpa using h)
      simp only [List.set_cons_succ, nv, List.getElem?_cons_succ, Nat.pow_succ]
      have e1 : 4294967296 ^ j * 4294967296 * r[j]?.getD 0 = 4294967296 * (4294967296 ^ j * r[j]?.getD 0) := by rw [Nat.mul_comm (4294967296 ^ j), Nat.mul_assoc]
      have e2 : 4294967296 ^ j * 4294967296 * v = 4294967296 * (4294967296 ^ j * v) := by rw [Nat.mul_comm (4294967296 ^ j), Nat.mul_assoc]
      rw [e1, e2]; omega
theorem W32.set {l : List Nat} (h : W32 l) (j v : Nat) (hv : v < 4294967296) : W32 (l.set j v) := by
  intro y hy
  rcases List.mem_or_eq_of_mem_set hy with hy | rfl
  · exact h y hy
  · exact hv
theorem getD_set_other (l : List Nat) (j k v : Nat) (h : j ≠ k) : (l.set j v)[k]?.getD 0 = l[k]?.getD 0 := by rw [List.getElem?_set_ne h]

/-- t = x y + o + c fits into two words. -/
theorem mul_fits {x y o c : Nat} (hx : x < 4294967296) (hy : y < 4294967296) (ho : o < 4294967296) (hc : c < 4294967296) : x * y + o + c < 18446744073709551616 := by
  have h := Nat.mul_le_mul (show x ≤ 4294967295 by omega) (show y ≤ 4294967295 by omega)
  omega
theorem mul_step {L : List Nat} {i k x y c p q : Nat} (hj : i + k < L.length) (h : nv L + 4294967296 ^ (i + k) * c = p + 4294967296 ^ i * (x * q)) :
    nv (L.set (i + k) ((x * y + L[i + k]?.getD 0 + c) % 4294967296)) + 4294967296 ^ (i + (k + 1)) * ((x * y + L[i + k]?.getD 0 + c) / 4294967296) = p + 4294967296 ^ i * (x * (q + 4294967296 ^ k * y)) := by
  have h1 := nv_set L (i + k) ((x * y + L[i + k]?.getD 0 + c) % 4294967296) hj
  generalize L[i + k]?.getD 0 = o at *
  have e : (x * y + o + c) % 4294967296 + 4294967296 * ((x * y + o + c) / 4294967296) = x * y + o + c := Nat.mod_add_div _ _
  have e2 : 4294967296 ^ (i + k) * ((x * y + o + c) % 4294967296) + 4294967296 ^ (i + (k + 1)) * ((x * y + o + c) / 4294967296) = 4294967296 ^ (i + k) * (x * y) + 4294967296 ^ (i + k) * o + 4294967296 ^ (i + k) * c := by
    rw [← Nat.add_assoc i k 1, Nat.pow_succ, Nat.mul_assoc, ← Nat.mul_add, e, Nat.mul_add, Nat.mul_add]
  have e3 : 4294967296 ^ i * (x * (q + 4294967296 ^ k * y)) = 4294967296 ^ i * (x * q) + 4294967296 ^ (i + k) * (x * y) := by
    rw [Nat.mul_add, Nat.mul_add, Nat.pow_add, Nat.mul_left_comm x, Nat.mul_assoc]
  rw [e3]
  omega
theorem mul_close {L : List Nat} {i n x c p q : Nat} (hj : i + n < L.length) (h0 : L[i + n]?.getD 0 = 0) (h : nv L + 4294967296 ^ (i + n) * c = p * q + 4294967296 ^ i * (x * q)) :
    nv (L.set (i + n) c) = (p + 4294967296 ^ i * x) * q := by
  have h1 := nv_set L (i + n) c hj
  rw [h0, Nat.mul_zero] at h1
  rw [Nat.add_mul, Nat.mul_assoc]
  omega

/-- One step of a division by a word, from the top: r the rest so far, q the quotient's upper words. -/
theorem div_step {q r x d a : Nat} (hd : 0 < d) (h : q * d + r = a) : ((r * 4294967296 + x) / d + 4294967296 * q) * d + (r * 4294967296 + x) % d = x + 4294967296 * a := by
  have e := Nat.div_add_mod (r * 4294967296 + x) d
  have e2 : 4294967296 * q * d = 4294967296 * (q * d) := Nat.mul_assoc ..
  have e3 : (r * 4294967296 + x) / d * d = d * ((r * 4294967296 + x) / d) := Nat.mul_comm ..
  rw [Nat.add_mul, e2, e3]
  omega
theorem nv_drop (l : List Nat) (k : Nat) (h : k < l.length) : nv (l.drop k) = l[k]?.getD 0 + 4294967296 * nv (l.drop (k + 1)) := by
  rw [List.drop_eq_getElem_cons h, nv_cons, List.getElem?_eq_getElem h]; rfl

end Go.Proofs.YtekipapkcgoieaaGreatDoor

/- Arithmetic of bits of words: the borrow of a difference, the two halves of a double word. -/
namespace Go.Proofs.YtekipapkcgoieaaGreatDoor
open Go.RowKit

theorem top_bit (n : Nat) (h : n < 4294967296) : n / 2147483648 = if n.testBit 31 then 1 else 0 := by
  rw [Nat.testBit_eq_decide_div_mod_eq]
  have : (2 : Nat) ^ 31 = 2147483648 := by decide
  rw [this]
  by_cases hb : n / 2147483648 % 2 = 1
  · simp [hb]; omega
  · simp [hb]; omega
theorem top_bit_of (n : Nat) (h : n < 4294967296) : n.testBit 31 = decide (2147483648 ≤ n) := by
  rw [Nat.testBit_eq_decide_div_mod_eq]
  have : (2 : Nat) ^ 31 = 2147483648 := by decide
  rw [this, decide_eq_decide]
  omega
theorem top_max : Nat.testBit 4294967295 31 = true := by decide
theorem borrow_nat (x y d c : Nat) (hx : x < 4294967296) (hy : y < 4294967296) (hd : d < 4294967296) (hc : c ≤ 1) (h : (x : Int) - y - c = d ∨ (x : Int) - y - c + 4294967296 = d) :
    (((4294967295 ^^^ x) &&& y) ||| ((4294967295 ^^^ (x ^^^ y)) &&& d)) / 2147483648 = if (x : Int) - y - c < 0 then 1 else 0 := by
  have e1 : (4294967295 ^^^ x) < 2 ^ 32 := Nat.xor_lt_two_pow (by decide) (by omega)
  have e2 : (x ^^^ y) < 2 ^ 32 := Nat.xor_lt_two_pow (by omega) (by omega)
  have e3 : (4294967295 ^^^ (x ^^^ y)) < 2 ^ 32 := Nat.xor_lt_two_pow (by decide) e2
  have e4 : ((4294967295 ^^^ x) &&& y) < 2 ^ 32 := Nat.and_lt_two_pow _ (by omega)
  have e5 : ((4294967295 ^^^ (x ^^^ y)) &&& d) < 2 ^ 32 := Nat.and_lt_two_pow _ (by omega)
  have e6 := Nat.or_lt_two_pow e4 e5
  rw [top_bit _ (by omega), Nat.testBit_or, Nat.testBit_and, Nat.testBit_and, Nat.testBit_xor, Nat.testBit_xor, Nat.testBit_xor, top_max, top_bit_of x hx, top_bit_of y hy, top_bit_of d hd]
  by_cases h1 : 2147483648 ≤ x <;> by_cases h2 : 2147483648 ≤ y <;> by_cases h3 : 2147483648 ≤ d <;> simp [h1, h2, h3] <;> omega

theorem borrow_int (x y c : Int) (hx0 : 0 ≤ x) (hx : x ≤ 4294967295) (hy0 : 0 ≤ y) (hy : y ≤ 4294967295) (hc0 : 0 ≤ c) (hc : c ≤ 1) :
    bits .or .u32 (bits .and .u32 (bits .xor .u32 IntKind.u32.max x) y) (bits .and .u32 (bits .xor .u32 IntKind.u32.max (bits .xor .u32 x y)) ((x - y - c) % 4294967296)) / 2147483648 = if x - y - c < 0 then 1 else 0 := by
  obtain ⟨x, rfl⟩ := Int.eq_ofNat_of_zero_le hx0
  obtain ⟨y, rfl⟩ := Int.eq_ofNat_of_zero_le hy0
  obtain ⟨c, rfl⟩ := Int.eq_ofNat_of_zero_le hc0
  obtain ⟨d, hd⟩ := Int.eq_ofNat_of_zero_le (Int.emod_nonneg ((x : Int) - y - c) (by omega : (4294967296 : Int) ≠ 0))
  have hd2 : d < 4294967296 := by omega
  have hm : IntKind.u32.max = ((4294967295 : Nat) : Int) := by decide
  have e1 : (4294967295 ^^^ x) < 2 ^ 32 := Nat.xor_lt_two_pow (by decide) (by omega)
  have e2 : (x ^^^ y) < 2 ^ 32 := Nat.xor_lt_two_pow (by omega) (by omega)
  have e3 : (4294967295 ^^^ (x ^^^ y)) < 2 ^ 32 := Nat.xor_lt_two_pow (by decide) e2
  have e4 : ((4294967295 ^^^ x) &&& y) < 2 ^ 32 := Nat.and_lt_two_pow _ (by omega)
  have e5 : ((4294967295 ^^^ (x ^^^ y)) &&& d) < 2 ^ 32 := Nat.and_lt_two_pow _ (by omega)
  rw [hd, hm, u32_xor_nat _ _ (by omega) (by omega), u32_and_nat _ _ (by omega) (by omega), u32_xor_nat _ _ (by omega) (by omega), u32_xor_nat _ _ (by omega) (by omega), u32_and_nat _ _ (by omega) (by omega), u32_or_nat _ _ (by omega) (by omega)]
  have := borrow_nat x y d c (by omega) (by omega) hd2 (by omega) (by omega)
  have h2 : ((((4294967295 ^^^ x) &&& y) ||| ((4294967295 ^^^ (x ^^^ y)) &&& d) : Nat) : Int) / 2147483648 = (((((4294967295 ^^^ x) &&& y) ||| ((4294967295 ^^^ (x ^^^ y)) &&& d)) / 2147483648 : Nat) : Int) := by rw [Int.natCast_ediv]; rfl
  rw [h2, this]
  split <;> rfl

theorem halves_or (hi lo : Int) (hx0 : 0 ≤ hi) (hx : hi ≤ 4294967295) (hy0 : 0 ≤ lo) (hy : lo ≤ 4294967295) : bits .or .u64 (hi * 4294967296) lo = hi * 4294967296 + lo := by
  obtain ⟨hi, rfl⟩ := Int.eq_ofNat_of_zero_le hx0
  obtain ⟨lo, rfl⟩ := Int.eq_ofNat_of_zero_le hy0
  have e : ((hi : Int) * 4294967296) = ((hi * 4294967296 : Nat) : Int) := by omega
  rw [e, u64_or_nat _ _ (by omega) (by omega)]
  have := Nat.two_pow_add_eq_or_of_lt (i := 32) (b := lo) (by omega) hi
  have e2 : (hi * 4294967296 ||| lo) = hi * 4294967296 + lo := by rw [Nat.mul_comm hi]; exact this.symm
  rw [e2]; omega

end Go.Proofs.YtekipapkcgoieaaGreatDoor

/- What values read as in memory: words, integers, fractions; and that such readings are kept by whatever leaves old blocks alone. -/
namespace Go.Proofs.YtekipapkcgoieaaGreatDoor
open Go.RowKit

/-- Nothing that was there has turned. -/
def Ext (w w' : World) : Prop := Below w.heap.size w w'
theorem Ext.refl (w : World) : Ext w w := Below.refl _ w
theorem Ext.trans {a b c : World} (h : Ext a b) (k : Ext b c) : Ext a c := Below.trans h (Below.mono k h.size)
theorem Ext.of {B : Nat} {w w' : World} (h : Below B w w') (hB : w.heap.size ≤ B) : Ext w w' := Below.mono h hB
theorem Ext.below {a b : World} (h : Ext a b) {B : Nat} (hB : B ≤ a.heap.size) : Below B a b := Below.mono h hB
theorem Ext.alloc {a b : World} (h : Ext a b) (o : Obj) : Ext a (b.alloc o) := Below.alloc h h.size o
theorem Ext.setCell {a b : World} (h : Ext a b) {p : Addr} (hp : a.heap.size ≤ p.block) (u : Value) : Ext a (b.setCell p u) := Below.setCell h hp u
theorem Ext.drew {a b : World} (h : Ext a b) : Ext a b.drew := Below.drew h
theorem below_drewN' {B : Nat} {a w : World} (h : Below B a w) (n : Nat) : Below B a (w.drewN n) := ⟨h.os, h.tape, h.output, h.size, h.block⟩
theorem Ext.drewN {a b : World} (h : Ext a b) (n : Nat) : Ext a (b.drewN n) := below_drewN' h n
theorem Ext.size' {a b : World} (h : Ext a b) : a.heap.size ≤ b.heap.size := h.size
theorem Ext.cell {w w' : World} (h : Ext w w') {p : Addr} (hp : p.block < w.heap.size) : w'.cell? p = w.cell? p := Below.cell h hp
theorem Ext.frozen {w w' : World} (h : Ext w w') {p : Addr} (hp : p.block < w.heap.size) : w'.frozen? p = w.frozen? p := Below.frozen h hp

/-- Block b bears cells of type t. -/
def TypeAt (w : World) (b : Nat) (t : TypeId) : Prop := ∃ cs fz, w.heap[b]? = some (.cells cs t fz)
theorem TypeAt.lt {w : World} {b : Nat} {t : TypeId} (h : TypeAt w b t) : b < w.heap.size := by
  obtain ⟨cs, fz, h⟩ := h
  rcases Nat.lt_or_ge b w.heap.size with hlt | hge
  · exact hlt
  · rw [Array.getElem?_eq_none hge] at h; cases h
theorem TypeAt.ext {w w' : World} {b : Nat} {t : TypeId} (h : TypeAt w b t) (hb : Ext w w') : TypeAt w' b t := by
  have hl := h.lt
  obtain ⟨cs, fz, h⟩ := h
  exact ⟨cs, fz, (hb.block b hl).trans h⟩
theorem TypeAt.setCell {w : World} {b : Nat} {t : TypeId} (h : TypeAt w b t) (p : Addr) (u : Value) : TypeAt (w.setCell p u) b t := by
  obtain ⟨cs, fz, h⟩ := h
  unfold TypeAt World.setCell
  simp only [Array.getElem?_modify]
  split
  · rw [h]; exact ⟨_, _, rfl⟩
  · exact ⟨cs, fz, h⟩
theorem TypeAt.ne {w : World} {b g : Nat} {t s : TypeId} (h : TypeAt w b t) (k : TypeAt w g s) (hne : t ≠ s) : b ≠ g := by
  rintro rfl
  obtain ⟨cs, fz, h⟩ := h
  obtain ⟨ds, gz, k⟩ := k
  rw [h] at k
  injection k with k
  injection k with _ k
  exact hne k

/-- All old cells and marks, as rules. -/
theorem Ext.rules {W w1 : World} (hb : Ext W w1) : (∀ b o, b < W.heap.size → w1.cell? ⟨b, o, none⟩ = W.cell? ⟨b, o, none⟩) ∧ (∀ b o, b < W.heap.size → w1.frozen? ⟨b, o, none⟩ = W.frozen? ⟨b, o, none⟩) ∧ (∀ b, b < W.heap.size → b < w1.heap.size) :=
  ⟨fun b o h => hb.cell (p := ⟨b, o, none⟩) h, fun b o h => hb.frozen (p := ⟨b, o, none⟩) h, fun _ h => Nat.lt_of_lt_of_le h hb.size⟩

/-- The cells of a slice of words. -/
def Words (w : World) (v : Value) (l : List Nat) : Prop :=
  (v = .slice none 0 0 ∧ l = []) ∨
    ∃ b o c, v = .slice (some ⟨b, o, none⟩) l.length c ∧ l.length ≤ c ∧ b < w.heap.size ∧ TypeAt w b 123 ∧ ∀ j x : Nat, l[j]? = some x → w.cell? ⟨b, o + j, none⟩ = some (.int .u32 (x : Int))
theorem Words.ext {w w' : World} {v : Value} {l : List Nat} (h : Words w v l) (hb : Ext w w') : Words w' v l := by
  rcases h with h | ⟨b, o, c, h1, h2, h3, h5, h4⟩
  · exact .inl h
  · exact .inr ⟨b, o, c, h1, h2, Nat.lt_of_lt_of_le h3 hb.size, h5.ext hb, fun j x hx => (hb.cell (p := ⟨b, o + j, none⟩) h3).trans (h4 j x hx)⟩
/-- A store into a block of another type. -/
theorem Words.setCell {w : World} {v : Value} {l : List Nat} (h : Words w v l) {p : Addr} {t : TypeId} (hp : TypeAt w p.block t) (ht : t ≠ 123) (u : Value) : Words (w.setCell p u) v l := by
  rcases h with h | ⟨b, o, c, h1, h2, h3, h5, h4⟩
  · exact .inl h
  · refine .inr ⟨b, o, c, h1, h2, by simpa [World.setCell] using h3, h5.setCell _ _, fun j x hx => ?_⟩
    rw [World.cell?_setCell_other w p ⟨b, o + j, none⟩ u (fun e => hp.ne h5 ht (by rw [e]))]
    exact h4 j x hx
theorem Words.nil (w : World) : Words w (.slice none 0 0) [] := .inl ⟨rfl, rfl⟩
theorem Words.zero (w : World) : Words w (.slice none 0 0) (wordsOf 0) := .inl ⟨rfl, rfl⟩

/-- A cell of a slice of words, in the walk's spelling. -/
theorem cells_of {w : World} {b o : Nat} {l : List Nat} (h : ∀ j x : Nat, l[j]? = some x → w.cell? ⟨b, o + j, none⟩ = some (.int .u32 (x : Int))) (k : Nat) (hk : k < l.length) :
    w.cell? ⟨b, o + k, none⟩ = some (.int .u32 ((l[k]?.getD 0 : Nat) : Int)) := by
  have := h k l[k] (List.getElem?_eq_getElem hk)
  simpa [List.getElem?_eq_getElem hk] using this

/-- A natural number's canonical words. -/
def IsNat (w : World) (v : Value) (m : Nat) : Prop := Words w v (wordsOf m)
theorem IsNat.setCell {w : World} {v : Value} {m : Nat} (h : IsNat w v m) {p : Addr} {t : TypeId} (hp : TypeAt w p.block t) (ht : t ≠ 123) (u : Value) : IsNat (w.setCell p u) v m := Words.setCell h hp ht u
theorem IsNat.ext {w w' : World} {v : Value} {m : Nat} (h : IsNat w v m) (hb : Ext w w') : IsNat w' v m := Words.ext h hb

/-- An integer: its sign, its words. -/
def IsInt (w : World) (b v : Value) (z : Int) : Prop := b = .bool (decide (z < 0)) ∧ IsNat w v z.natAbs
theorem IsInt.setCell {w : World} {b v : Value} {z : Int} (h : IsInt w b v z) {p : Addr} {t : TypeId} (hp : TypeAt w p.block t) (ht : t ≠ 123) (u : Value) : IsInt (w.setCell p u) b v z := ⟨h.1, h.2.setCell hp ht u⟩
theorem IsInt.ext {w w' : World} {b v : Value} {z : Int} (h : IsInt w b v z) (hb : Ext w w') : IsInt w' b v z := ⟨h.1, h.2.ext hb⟩

/-- A whole block that is known. -/
def Blk (w : World) (g : Nat) (t : TypeId) (cs : Array Value) : Prop := w.heap[g]? = some (.cells cs t (0, 0))

section
variable {w w' : World} {g : Nat} {t : TypeId} {cs : Array Value}
theorem Blk.lt (h : Blk w g t cs) : g < w.heap.size := by
  rcases Nat.lt_or_ge g w.heap.size with hlt | hge
  · exact hlt
  · unfold Blk at h; rw [Array.getElem?_eq_none hge] at h; cases h
theorem Blk.cell (h : Blk w g t cs) (i : Nat) : w.cell? ⟨g, i, none⟩ = cs[i]? := cell_of_row w g i cs t (0, 0) h
theorem Blk.frozen (h : Blk w g t cs) (i : Nat) : w.frozen? ⟨g, i, none⟩ = false := by
  unfold Blk at h
  simp [World.frozen?, h]
theorem Blk.new (w : World) (t : TypeId) (cs : Array Value) : Blk (w.alloc (.cells cs t)) w.heap.size t cs := heap_alloc_new w _
theorem Blk.newAt (w : World) (t : TypeId) (cs : Array Value) {g : Nat} (hg : w.heap.size = g) : Blk (w.alloc (.cells cs t)) g t cs := by subst hg; exact Blk.new w t cs
theorem Blk.drew (h : Blk w g t cs) : Blk w.drew g t cs := h
theorem Blk.drewN (h : Blk w g t cs) (n : Nat) : Blk (w.drewN n) g t cs := h
theorem Blk.alloc (h : Blk w g t cs) (o : Obj) : Blk (w.alloc o) g t cs := (Below.heap_alloc w o g h.lt).trans h
theorem Blk.set_ (h : Blk w g t cs) (i : Nat) (u : Value) : Blk (w.setCell ⟨g, i, none⟩ u) g t (cs.setIfInBounds i u) := by
  unfold Blk at h ⊢
  simp [World.setCell, Array.getElem?_modify, h]
theorem Blk.far (h : Blk w g t cs) {p : Addr} (hp : g ≠ p.block) (u : Value) : Blk (w.setCell p u) g t cs := (Below.heap_setCell w p u g hp).trans h
theorem Blk.below {B : Nat} (h : Blk w g t cs) (hb : Below B w w') (hg : g < B) : Blk w' g t cs := (hb.block g hg).trans h
theorem Blk.type (h : Blk w g t cs) : TypeAt w g t := ⟨cs, (0, 0), h⟩
theorem Blk.ext (h : Blk w g t cs) (hb : Ext w w') : Blk w' g t cs := Blk.below h hb h.lt
end

theorem Blk.two {w : World} {g : Nat} {t : TypeId} {x y : Value} (h : Blk w g t #[x, y]) :
    w.cell? ⟨g, 0, none⟩ = some x ∧ w.cell? ⟨g, 1, none⟩ = some y ∧ w.frozen? ⟨g, 0, none⟩ = false ∧ w.frozen? ⟨g, 1, none⟩ = false :=
  ⟨h.cell 0, h.cell 1, h.frozen 0, h.frozen 1⟩
theorem Blk.set2 {w : World} {g : Nat} {t : TypeId} {x y : Value} (h : Blk w g t #[x, y]) (a b : Value) : Blk ((w.setCell ⟨g, 0, none⟩ a).setCell ⟨g, 1, none⟩ b) g t #[a, b] := (h.set_ 0 a).set_ 1 b
theorem Blk.far2 {w : World} {g k : Nat} {t : TypeId} {cs : Array Value} (h : Blk w g t cs) (hk : g ≠ k) (a b : Value) : Blk ((w.setCell ⟨k, 0, none⟩ a).setCell ⟨k, 1, none⟩ b) g t cs := (h.far (p := ⟨k, 0, none⟩) hk a).far (p := ⟨k, 1, none⟩) hk b
theorem IsInt.alloc {w : World} {b v : Value} {z : Int} (h : IsInt w b v z) (o : Obj) : IsInt (w.alloc o) b v z := h.ext ((Ext.refl w).alloc o)
theorem IsInt.drew {w : World} {b v : Value} {z : Int} (h : IsInt w b v z) : IsInt w.drew b v z := h.ext ((Ext.refl w).drew)
theorem IsInt.set2 {w : World} {b v : Value} {z : Int} (h : IsInt w b v z) {k : Nat} {t : TypeId} (hk : TypeAt w k t) (ht : t ≠ 123) (a c : Value) : IsInt ((w.setCell ⟨k, 0, none⟩ a).setCell ⟨k, 1, none⟩ c) b v z := (h.setCell (p := ⟨k, 0, none⟩) hk ht a).setCell (p := ⟨k, 1, none⟩) (hk.setCell _ _) ht c
theorem Ext.set2 {a b : World} (h : Ext a b) {k : Nat} (hk : a.heap.size ≤ k) (u v : Value) : Ext a ((b.setCell ⟨k, 0, none⟩ u).setCell ⟨k, 1, none⟩ v) := (h.setCell (p := ⟨k, 0, none⟩) hk u).setCell (p := ⟨k, 1, none⟩) hk v
theorem Blk.four {w : World} {g : Nat} {t : TypeId} {x y z u : Value} (h : Blk w g t #[x, y, z, u]) :
    w.cell? ⟨g, 0, none⟩ = some x ∧ w.cell? ⟨g, 1, none⟩ = some y ∧ w.cell? ⟨g, 2, none⟩ = some z ∧ w.cell? ⟨g, 3, none⟩ = some u ∧
      w.frozen? ⟨g, 0, none⟩ = false ∧ w.frozen? ⟨g, 1, none⟩ = false ∧ w.frozen? ⟨g, 2, none⟩ = false ∧ w.frozen? ⟨g, 3, none⟩ = false :=
  ⟨h.cell 0, h.cell 1, h.cell 2, h.cell 3, h.frozen 0, h.frozen 1, h.frozen 2, h.frozen 3⟩

/-- The words of a block of the call's own. -/
def u32s (l : List Nat) : Array Value := (l.map fun x : Nat => Value.int .u32 (x : Int)).toArray
theorem u32s_get (l : List Nat) (j : Nat) (x : Nat) (h : l[j]? = some x) : (u32s l)[j]? = some (.int .u32 (x : Int)) := by simp [u32s, h]
theorem u32s_set (l : List Nat) (j x : Nat) : (u32s l).setIfInBounds j (.int .u32 (x : Int)) = u32s (l.set j x) := by
  simp [u32s, List.map_set]
theorem Words.of_blk {w : World} {g : Nat} {l : List Nat} {c k : Nat} (h : Blk w g 123 (u32s l)) (hk : k ≤ l.length) (hc : k ≤ c) : Words w (.slice (some ⟨g, 0, none⟩) k c) (l.take k) := by
  refine .inr ⟨g, 0, c, ?_, ?_, h.lt, h.type, fun j x hx => ?_⟩
  · simp [List.length_take, Nat.min_eq_left hk]
  · simp [List.length_take, Nat.min_eq_left hk, hc]
  · rw [Nat.zero_add, h.cell j]
    apply u32s_get
    by_cases hj : j < k
    · simpa [List.getElem?_take_of_lt hj] using hx
    · rw [List.getElem?_eq_none (by simp; omega)] at hx; cases hx

theorem quiet_add_left {P : Program} {f : FuncId} {args : Array Value} {w : World} {a n : Nat} {v : Value}
    (h : Calls P f args (w.drewN (a + n)) fun e w' => e = .returned v ∧ w.drewN (a + n) = w') :
    Calls P f args (w.drewN (a + n)) fun e w'' => e = .returned v ∧ ∃ m, w'' = w.drewN (a + m) :=
  h.mono fun _ _ ⟨he, hm⟩ => ⟨he, n, hm.symm⟩
theorem quiet_left {P : Program} {f : FuncId} {args : Array Value} {w : World} {n : Nat} {v : Value}
    (h : Calls P f args (w.drewN n) fun e w' => e = .returned v ∧ w.drewN n = w') : Calls P f args (w.drewN n) fun e w'' => e = .returned v ∧ ∃ m, w'' = w.drewN m :=
  h.mono fun _ _ ⟨he, hm⟩ => ⟨he, n, hm.symm⟩

theorem own_succ {W : World} {base : Nat} {e : TypeId} {size : Nat} {v : Value} {k : Nat} {xs : List Value} (h : W.ownsRow base e size v (k + 1) xs) : ∃ g cap, v = .slice (some ⟨g, 0, none⟩) (k + 1) cap := by
  rcases h.2 with ⟨_, h0⟩ | ⟨g, cap, _, rfl, _⟩
  · omega
  · exact ⟨g, cap, rfl⟩
theorem own_block {W : World} {base : Nat} {e : TypeId} {size : Nat} {v : Value} {k : Nat} {xs : List Value} (h : W.ownsRow base e size v k xs) : ∀ g, v.ownBlock = some g → base ≤ g := by
  intro g hg
  rcases h.2 with ⟨rfl, _⟩ | ⟨g', cap, _, rfl, hb, _⟩
  · cases hg
  · injection hg with hg; subst hg; exact hb
/-- Behind an append to a row of the call's own. -/
theorem Ext.grown {w w1 w2 : World} {row : Option Nat} (h : Ext w w1) (hg : w1.grownBy w2 row) (hr : ∀ k, row = some k → w.heap.size ≤ k) : Ext w w2 := Below.grown h hg h.size hr

theorem mp_of {p q : Prop} (hp : p) (hq : p → q) : q := hq hp
theorem addr_add (b o j : Nat) : (⟨b, o, none⟩ : Addr).add j = ⟨b, o + j, none⟩ := by
  unfold Addr.add; split
  · rename_i h; rw [h]; rfl
  · rfl
/-- The source of a copy. -/
theorem Words.src {w w' : World} {A : Option Addr} {n c : Nat} {l : List Nat} (h : Words w (.slice A n c) l) (hE : Ext w w') (h0 : 0 < l.length) :
    ∃ ad, A = some ad ∧ ∀ (j : Nat) (x : Value), (l.map fun x : Nat => Value.int .u32 (x : Int))[j]? = some x → w'.cell? (ad.add j) = some x := by
  rcases h with ⟨_, rfl⟩ | ⟨b, o, c', e, _, hb, _, hx⟩
  · simp at h0
  · injection e with e
    refine ⟨_, e, fun j x hj => ?_⟩
    rw [List.getElem?_map, Option.map_eq_some_iff] at hj
    obtain ⟨y, hy, rfl⟩ := hj
    rw [addr_add, hE.cell (p := ⟨b, o + j, none⟩) hb]
    exact hx j y hy

/-- A word of a slice, its address out of a variable. -/
theorem Words.word {w w' : World} {A : Option Addr} {n c : Nat} {l : List Nat} (h : Words w (.slice A n c) l) (hE : Ext w w') (k : Nat) (hk : k < l.length) :
    ∃ b o, A = some ⟨b, o, none⟩ ∧ w'.cell? ⟨b, o + k, none⟩ = some (.int .u32 ((l[k]?.getD 0 : Nat) : Int)) := by
  rcases h with ⟨_, rfl⟩ | ⟨b, o, c', e, _, hb, _, hx⟩
  · simp at hk
  · injection e with e
    exact ⟨b, o, e, (hE.cell (p := ⟨b, o + k, none⟩) hb).trans (cells_of hx k hk)⟩

theorem grow_set {a w : World} {g : Nat} (h : a.grownBy w (some g)) (i : Nat) (u : Value) : a.grownBy (w.setCell ⟨g, i, none⟩ u) (some g) :=
  ⟨h.os, h.tape, h.output, by simpa [World.setCell] using h.size, fun k hk hne => (Below.heap_setCell w ⟨g, i, none⟩ u k (by rintro rfl; exact hne rfl)).trans (h.block k hk hne)⟩

/-- The walk stands still ahead of the operation that writes slot k. -/
theorem stop_at (k : Nat) {P : Program} {ops : Array Oper} {Q : Exit → Act → World → Prop} {op : Op} {ty : TypeId} {pos : String} {af : Array Edge} {gd : Option (Nat × Bool)} {rest : List Oper} {a : Act} {w : World}
    (h : Hid (wpList P ops Q ({ dst := some k, op := op, type := ty, pos := pos, after := af, guard := gd } :: rest) a w)) :
    wpList P ops Q ({ dst := some k, op := op, type := ty, pos := pos, after := af, guard := gd } :: rest) a w := h

/-- A fraction in lowest terms. -/
def IsRat (w : World) (a b c d : Value) (q : Rat) : Prop := IsInt w a b q.num ∧ IsInt w c d (q.den : Int)
theorem IsRat.setCell {w : World} {a b c d : Value} {q : Rat} (h : IsRat w a b c d q) {p : Addr} {t : TypeId} (hp : TypeAt w p.block t) (ht : t ≠ 123) (u : Value) : IsRat (w.setCell p u) a b c d q := ⟨h.1.setCell hp ht u, h.2.setCell hp ht u⟩
theorem IsRat.ext {w w' : World} {a b c d : Value} {q : Rat} (h : IsRat w a b c d q) (hb : Ext w w') : IsRat w' a b c d q := ⟨h.1.ext hb, h.2.ext hb⟩

end Go.Proofs.YtekipapkcgoieaaGreatDoor

/- trim: both programs cut zeros off at the end of a list of words; nothing in memory turns. -/
namespace Go.Proofs.YtekipapkcgoieaaGreatDoor
open Go.RowKit

/-- The length of a slice, as a measure. -/
def lenOf : Value → Nat | .slice _ n _ => n | _ => 0
def RWords (w0 w : World) (l : List Nat) (e : Ending) (w' : World) : Prop := ∃ A n c, e = .returned (.slice A n c) ∧ Words w0 (.slice A n c) l ∧ w = w'
theorem Words.shape {w : World} {v : Value} {l : List Nat} (h : Words w v l) : ∃ A c, v = .slice A l.length c := by
  rcases h with ⟨rfl, rfl⟩ | ⟨g, o, c, rfl, _⟩
  · exact ⟨none, 0, rfl⟩
  · exact ⟨_, c, rfl⟩
theorem Words.some_ {w : World} {v : Value} {l : List Nat} (h : Words w v l) (h0 : 0 < l.length) :
    ∃ b o c, v = .slice (some ⟨b, o, none⟩) l.length c ∧ l.length ≤ c ∧ b < w.heap.size ∧ TypeAt w b 123 ∧ ∀ j x : Nat, l[j]? = some x → w.cell? ⟨b, o + j, none⟩ = some (.int .u32 (x : Int)) := by
  rcases h with ⟨_, rfl⟩ | h
  · simp at h0
  · exact h
theorem cast_get {l : List Nat} (hl : W32 l) (k : Nat) : 0 ≤ ((l[k]?.getD 0 : Nat) : Int) ∧ ((l[k]?.getD 0 : Nat) : Int) ≤ 4294967295 := by
  have := hl.get k; omega
theorem Words.len {w : World} {A : Option Addr} {n c : Nat} {l : List Nat} (h : Words w (.slice A n c) l) : n = l.length := by
  obtain ⟨A', c', e⟩ := h.shape
  injection e
theorem RWords.mk {w0 w : World} {l : List Nat} {v : Value} (h : Words w0 v l) : RWords w0 w l (.returned v) w := by
  obtain ⟨A, c, rfl⟩ := h.shape
  exact ⟨A, _, c, rfl, h, rfl⟩

set_option maxHeartbeats 400000 in
theorem trim_any (v : Value) (l : List Nat) (w0 w : World) (hE : Ext w0 w) (hl : W32 l) (hlen : l.length ≤ 1000000000) (h : Words w0 v l) :
    Calls Tryz.prog 124 #[v] w (RWords w0 w (wordsOf (nv l))) := by
  rcases h with ⟨rfl, rfl⟩ | ⟨b, o, c, rfl, hc, hb, ht, hx⟩
  · go_enter Tryz.func124, Tryz.ntmps124
    go_wp2
    refine wp_loop_once ?_
    go_wp2
    go_ret
    exact RWords.mk (Words.zero _)
  · go_enter Tryz.func124, Tryz.ntmps124
    go_wp2
    go_loop [0] (fun t => ∃ k : Nat, k ≤ l.length ∧ t = .slice (some ⟨b, o, none⟩) k c ∧ Hid (∀ j, k ≤ j → l[j]?.getD 0 = 0)) (fun t => lenOf t)
    case atStart => exact ⟨l.length, Nat.le_refl _, rfl, fun j hj => by simp [List.getElem?_eq_none hj]⟩
    case round =>
      obtain ⟨k, hk, rfl, hz⟩ := hrel
      have hcell : 0 < k → w.cell? ⟨b, o + (k - 1), none⟩ = some (.int .u32 ((l[k - 1]?.getD 0 : Nat) : Int)) := fun _ => (hE.cell (p := ⟨b, o + (k - 1), none⟩) hb).trans (cells_of hx (k - 1) (by omega))
      have hX := Lib.hid hx
      clear hx
      have fin : (0 < k → l[k - 1]?.getD 0 ≠ 0) → Words w0 (.slice (some ⟨b, o, none⟩) k c) (wordsOf (nv l)) := by
        intro hl1
        rw [← take_trim hl k hk hl1 hz.out]
        refine .inr ⟨b, o, c, ?_, by simp; omega, hb, ht, fun j x hx => ?_⟩
        · simp [Nat.min_eq_left hk]
        · by_cases hj : j < k
          · exact hX.out j x (by simpa [List.getElem?_take_of_lt hj] using hx)
          · rw [List.getElem?_eq_none (by simp; omega)] at hx; cases hx
      have hF := Lib.hid fin
      clear fin
      go_wp2
      · have h0 : ((l[k - 1]?.getD 0 : Nat) : Int) == 0 := by assumption
        have hk0 : 0 < k := by assumption
        have h1 : l[k - 1]?.getD 0 = 0 := by simpa using h0
        go_round
        case rel => exact ⟨k - 1, by omega, rfl, fun j hj => by
          by_cases hj1 : j = k - 1
          · rw [hj1]; exact h1
          · exact hz.out j (by omega)⟩
        case measure => simp [lenOf]; omega
      · have h0 : (((l[k - 1]?.getD 0 : Nat) : Int) == 0) = false := by assumption
        go_ret
        exact RWords.mk (hF.out (fun _ => by simpa using h0))
      · have hk0 : ¬ 0 < k := by assumption
        go_ret
        exact RWords.mk (hF.out (fun h => absurd h hk0))
set_option maxHeartbeats 400000 in
theorem trim1_any (v : Value) (l : List Nat) (w0 w : World) (hE : Ext w0 w) (hl : W32 l) (hlen : l.length ≤ 1000000000) (h : Words w0 v l) :
    Calls Tryz.prog 88 #[v] w (RWords w0 w (wordsOf (nv l))) := by
  rcases h with ⟨rfl, rfl⟩ | ⟨b, o, c, rfl, hc, hb, ht, hx⟩
  · go_enter Tryz.func88, Tryz.ntmps88
    go_wp2
    refine wp_loop_once ?_
    go_wp2
    go_ret
    exact RWords.mk (Words.zero _)
  · go_enter Tryz.func88, Tryz.ntmps88
    go_wp2
    go_loop [0] (fun t => ∃ k : Nat, k ≤ l.length ∧ t = .slice (some ⟨b, o, none⟩) k c ∧ Hid (∀ j, k ≤ j → l[j]?.getD 0 = 0)) (fun t => lenOf t)
    case atStart => exact ⟨l.length, Nat.le_refl _, rfl, fun j hj => by simp [List.getElem?_eq_none hj]⟩
    case round =>
      obtain ⟨k, hk, rfl, hz⟩ := hrel
      have hcell : 0 < k → w.cell? ⟨b, o + (k - 1), none⟩ = some (.int .u32 ((l[k - 1]?.getD 0 : Nat) : Int)) := fun _ => (hE.cell (p := ⟨b, o + (k - 1), none⟩) hb).trans (cells_of hx (k - 1) (by omega))
      have hX := Lib.hid hx
      clear hx
      have fin : (0 < k → l[k - 1]?.getD 0 ≠ 0) → Words w0 (.slice (some ⟨b, o, none⟩) k c) (wordsOf (nv l)) := by
        intro hl1
        rw [← take_trim hl k hk hl1 hz.out]
        refine .inr ⟨b, o, c, ?_, by simp; omega, hb, ht, fun j x hx => ?_⟩
        · simp [Nat.min_eq_left hk]
        · by_cases hj : j < k
          · exact hX.out j x (by simpa [List.getElem?_take_of_lt hj] using hx)
          · rw [List.getElem?_eq_none (by simp; omega)] at hx; cases hx
      have hF := Lib.hid fin
      clear fin
      go_wp2
      · have h0 : ((l[k - 1]?.getD 0 : Nat) : Int) == 0 := by assumption
        have hk0 : 0 < k := by assumption
        have h1 : l[k - 1]?.getD 0 = 0 := by simpa using h0
        go_round
        case rel => exact ⟨k - 1, by omega, rfl, fun j hj => by
          by_cases hj1 : j = k - 1
          · rw [hj1]; exact h1
          · exact hz.out j (by omega)⟩
        case measure => simp [lenOf]; omega
      · have h0 : (((l[k - 1]?.getD 0 : Nat) : Int) == 0) = false := by assumption
        go_ret
        exact RWords.mk (hF.out (fun _ => by simpa using h0))
      · have hk0 : ¬ 0 < k := by assumption
        go_ret
        exact RWords.mk (hF.out (fun h => absurd h hk0))

end Go.Proofs.YtekipapkcgoieaaGreatDoor

/- Contracts of small library functions: sums and differences of words with carries, quotients of two words by one, comparisons. -/
namespace Go.Proofs.YtekipapkcgoieaaGreatDoor
open Go.RowKit

def icmp (a b : Int) : Int := if a < b then -1 else if b < a then 1 else 0
theorem ret_int {k : IntKind} {a b : Int} (h : a = b) : Ending.returned (.int k a) = .returned (.int k b) := by rw [h]
theorem ret_int2 {k j : IntKind} {a b c d : Int} (h : a = b) (h2 : c = d) : Ending.returned (.tuple #[.int k a, .int j c]) = .returned (.tuple #[.int k b, .int j d]) := by rw [h, h2]
theorem icmp_lt {a b : Int} (h : a < b) : icmp a b = -1 := by unfold icmp; rw [if_pos h]
theorem icmp_gt {a b : Int} (h : b < a) : icmp a b = 1 := by unfold icmp; rw [if_neg (by omega), if_pos h]
theorem icmp_eq {a b : Int} (h : a = b) : icmp a b = 0 := by unfold icmp; rw [if_neg (by omega), if_neg (by omega)]

set_option maxHeartbeats 400000 in
theorem add32_any (x y c : Int) (hx0 : 0 ≤ x) (hx : x ≤ 4294967295) (hy0 : 0 ≤ y) (hy : y ≤ 4294967295) (hc0 : 0 ≤ c) (hc : c ≤ 1) (w : World) :
    Calls Tryz.prog 138 #[.int .u32 x, .int .u32 y, .int .u32 c] w fun e w' => e = .returned (.tuple #[.int .u32 ((x + y + c) % 4294967296), .int .u32 ((x + y + c) / 4294967296)]) ∧ w = w' := by
  go_enter Tryz.func138, Tryz.ntmps138
  go_wp2
  go_ret2
  exact ⟨rfl, rfl⟩

set_option maxHeartbeats 400000 in
theorem sub32_any (x y c r : Int) (hx0 : 0 ≤ x) (hx : x ≤ 4294967295) (hy0 : 0 ≤ y) (hy : y ≤ 4294967295) (hc0 : 0 ≤ c) (hc : c ≤ 1) (hr : r = if x - y - c < 0 then 1 else 0) (w : World) :
    Calls Tryz.prog 140 #[.int .u32 x, .int .u32 y, .int .u32 c] w fun e w' => e = .returned (.tuple #[.int .u32 ((x - y - c) % 4294967296), .int .u32 r]) ∧ w = w' := by
  have hb := Lib.hid ((borrow_int x y c hx0 hx hy0 hy hc0 hc).trans hr.symm)
  clear hr
  go_enter Tryz.func140, Tryz.ntmps140
  go_wp2
  go_ret2
  exact ⟨ret_int2 rfl hb.out, rfl⟩

set_option maxHeartbeats 400000 in
theorem div32_any (hi lo y : Int) (hx0 : 0 ≤ hi) (hx : hi < y) (hy0 : 0 ≤ lo) (hy : lo ≤ 4294967295) (hc : y ≤ 4294967295) (w : World) :
    Calls Tryz.prog 123 #[.int .u32 hi, .int .u32 lo, .int .u32 y] w fun e w' => e = .returned (.tuple #[.int .u32 ((hi * 4294967296 + lo) / y), .int .u32 ((hi * 4294967296 + lo) % y)]) ∧ ∃ n, w' = w.drewN n := by
  have hb := halves_or hi lo hx0 (by omega) hy0 hy
  have h1 : (y != 0) = true := by rw [bne_iff_ne]; omega
  have h2 : decide (y ≤ hi) = false := by simpa using hx
  go_enter Tryz.func123, Tryz.ntmps123
  go_wp2
  go_quiet (fail)
  go_wp2
  go_ret2
  have e0 : 0 ≤ hi * 4294967296 + lo := by omega
  have e1 : (hi * 4294967296 + lo) / y < 4294967296 := Int.ediv_lt_of_lt_mul (by omega) (by omega)
  have e2 : 0 ≤ (hi * 4294967296 + lo) / y := Int.ediv_nonneg e0 (by omega)
  have e3 : (hi * 4294967296 + lo) % y < y := Int.emod_lt_of_pos _ (by omega)
  have e4 : 0 ≤ (hi * 4294967296 + lo) % y := Int.emod_nonneg _ (by omega)
  exact ⟨ret_int2 (by omega) (by omega), _, rfl⟩

set_option maxHeartbeats 400000 in
theorem cmpint_any (x y : Int) (w : World) :
    Calls Tryz.prog 120 #[.int .i64 x, .int .i64 y] w fun e w' => e = .returned (.int .i64 (icmp x y)) ∧ w = w' := by
  rcases Int.lt_trichotomy x y with h | h | h
  · go_enter Tryz.func120, Tryz.ntmps120
    go_wp2
    go_ret
    exact ⟨ret_int (icmp_lt h).symm, rfl⟩
  · subst h
    go_enter Tryz.func120, Tryz.ntmps120
    go_wp2
    go_ret
    exact ⟨ret_int (icmp_eq rfl).symm, rfl⟩
  · have h' : ¬ x < y := by omega
    go_enter Tryz.func120, Tryz.ntmps120
    go_wp2
    go_ret
    exact ⟨ret_int (icmp_gt h).symm, rfl⟩
set_option maxHeartbeats 400000 in
theorem cmpu32_any (x y : Int) (w : World) :
    Calls Tryz.prog 139 #[.int .u32 x, .int .u32 y] w fun e w' => e = .returned (.int .i64 (icmp x y)) ∧ w = w' := by
  rcases Int.lt_trichotomy x y with h | h | h
  · go_enter Tryz.func139, Tryz.ntmps139
    go_wp2
    go_ret
    exact ⟨ret_int (icmp_lt h).symm, rfl⟩
  · subst h
    go_enter Tryz.func139, Tryz.ntmps139
    go_wp2
    go_ret
    exact ⟨ret_int (icmp_eq rfl).symm, rfl⟩
  · have h' : ¬ x < y := by omega
    go_enter Tryz.func139, Tryz.ntmps139
    go_wp2
    go_ret
    exact ⟨ret_int (icmp_gt h).symm, rfl⟩

end Go.Proofs.YtekipapkcgoieaaGreatDoor

/- Comparing sizes: both programs. -/
namespace Go.Proofs.YtekipapkcgoieaaGreatDoor
open Go.RowKit

theorem icmp_nat_lt {a b : Nat} (h : a < b) : icmp (a : Int) (b : Int) = -1 := icmp_lt (by omega)
theorem icmp_nat_gt {a b : Nat} (h : b < a) : icmp (a : Int) (b : Int) = 1 := icmp_gt (by omega)
theorem icmp_nat_eq {a b : Nat} (h : a = b) : icmp (a : Int) (b : Int) = 0 := icmp_eq (by omega)

set_option maxHeartbeats 400000 in
theorem ncmp_any (v u : Value) (a b : List Nat) (w : World) (ha : Canon a) (hb : Canon b) (hal : a.length ≤ 1000000000) (hbl : b.length ≤ 1000000000) (h1 : Words w v a) (h2 : Words w u b) :
    Calls Tryz.prog 112 #[v, u] w fun e w' => e = .returned (.int .i64 (icmp (nv a) (nv b))) ∧ ∃ n, w' = w.drewN n := by
  by_cases hlen : a.length = b.length
  · by_cases h0 : 0 < a.length
    · obtain ⟨g, o, c, rfl, _, _, _, hx⟩ := h1.some_ h0
      obtain ⟨g', o', c', rfl, _, _, _, hy⟩ := h2.some_ (by omega)
      have h3 : (icmp (a.length : Int) (b.length : Int) != 0) = false := by rw [icmp_nat_eq hlen]; rfl
      have haw := ha.w32
      have hbw := hb.w32
      have HL := Lib.hid hlen
      have HX := Lib.hid hx
      have HY := Lib.hid hy
      have hle : a.length ≤ b.length := by omega
      clear hlen hx hy h1 h2
      go_enter Tryz.func112, Tryz.ntmps112
      go_wp2_with (go_at_call 120; refine (cmpint_any _ _ _).mono ?_; rintro e w' ⟨rfl, rfl⟩)
      go_loopw [6] (fun t wr => ∃ i : Int, -1 ≤ i ∧ i < (a.length : Int) ∧ t = .int .i64 i ∧ Hid (∀ j : Nat, i < (j : Int) → a[j]?.getD 0 = b[j]?.getD 0) ∧ ∃ m, wr = w.drewN m) (fun t _ => (intOf t + 1).toNat)
      case atStart => exact ⟨(a.length : Int) - 1, by omega, by omega, rfl, (fun j hj => by rw [List.getElem?_eq_none (by omega), List.getElem?_eq_none (by have := HL.out; omega)]), 0, rfl⟩
      case round =>
        obtain ⟨i, hi0, hi1, rfl, hz, m, rfl⟩ := hrel
        by_cases hk0 : 0 ≤ i
        · obtain ⟨k, rfl⟩ := Int.eq_ofNat_of_zero_le hk0
          have hcx := cells_of HX.out k (by omega)
          have hcy := cells_of HY.out k (by omega)
          by_cases heq : a[k]?.getD 0 = b[k]?.getD 0
          · have h4 : (icmp ((a[k]?.getD 0 : Nat) : Int) ((b[k]?.getD 0 : Nat) : Int) != 0) = false := by rw [icmp_nat_eq heq]; rfl
            have HE := Lib.hid heq
            clear heq
            go_wp2
            go_quiet ((go_at_call 139; exact quiet_add_left (cmpu32_any _ _ _)))
            go_wp2
            go_roundw
            case rel => exact ⟨(k : Int) - 1, by omega, by omega, rfl, (fun j hj => by
              by_cases hjk : j = k
              · rw [hjk]; exact HE.out
              · exact hz.out j (by omega)), _, rfl⟩
            case measure => (simp [intOf] <;> omega)
          · have hfin : icmp ((a[k]?.getD 0 : Nat) : Int) ((b[k]?.getD 0 : Nat) : Int) = icmp (nv a) (nv b) ∧ (icmp ((a[k]?.getD 0 : Nat) : Int) ((b[k]?.getD 0 : Nat) : Int) != 0) = true := by
              rcases Nat.lt_or_gt_of_ne heq with h | h
              · have hv := nv_lt_of haw HL.out k (by omega) (fun j hj => hz.out j (by omega)) h
                rw [icmp_nat_lt h, icmp_nat_lt hv]; exact ⟨rfl, rfl⟩
              · have hv := nv_lt_of hbw HL.out.symm k (by omega) (fun j hj => (hz.out j (by omega)).symm) h
                rw [icmp_nat_gt h, icmp_nat_gt hv]; exact ⟨rfl, rfl⟩
            obtain ⟨hf1, h4⟩ := hfin
            have HF := Lib.hid hf1
            clear hf1 heq
            go_wp2
            go_quiet ((go_at_call 139; exact quiet_add_left (cmpu32_any _ _ _)))
            go_wp2
            go_ret
            exact ⟨ret_int HF.out, _, rfl⟩
        · have hab := Lib.hid (eq_of_all HL.out fun j _ => hz.out j (by omega))
          go_wp2
          go_ret
          exact ⟨ret_int (by rw [hab.out, icmp_eq rfl]), _, rfl⟩
    · obtain ⟨A, c, rfl⟩ := h1.shape
      obtain ⟨B, d, rfl⟩ := h2.shape
      obtain rfl : a = [] := List.eq_nil_of_length_eq_zero (by omega)
      obtain rfl : b = [] := List.eq_nil_of_length_eq_zero (by omega)
      have h3 : (icmp 0 0 != 0) = false := by rfl
      clear h1 h2 hlen h0
      go_enter Tryz.func112, Tryz.ntmps112
      go_wp2_with (go_at_call 120; refine (cmpint_any _ _ _).mono ?_; rintro e w' ⟨rfl, rfl⟩)
      refine wp_loop_once ?_
      go_wp2
      go_ret
      exact ⟨ret_int rfl, 0, rfl⟩
  · obtain ⟨A, c, rfl⟩ := h1.shape
    obtain ⟨B, d, rfl⟩ := h2.shape
    have h3 : icmp (a.length : Int) (b.length : Int) = icmp (nv a) (nv b) := by
      rcases Nat.lt_or_gt_of_ne hlen with h | h
      · rw [icmp_nat_lt h, icmp_nat_lt (canon_len_lt ha hb h)]
      · rw [icmp_nat_gt h, icmp_nat_gt (canon_len_lt hb ha h)]
    have h4 : (icmp (a.length : Int) (b.length : Int) != 0) = true := by
      rcases Nat.lt_or_gt_of_ne hlen with h | h
      · rw [icmp_nat_lt h]; rfl
      · rw [icmp_nat_gt h]; rfl
    have H3 := Lib.hid h3
    clear h3 h1 h2
    go_enter Tryz.func112, Tryz.ntmps112
    go_wp2_with (go_at_call 120; refine (cmpint_any _ _ _).mono ?_; rintro e w' ⟨rfl, rfl⟩)
    go_ret
    exact ⟨ret_int H3.out, 0, rfl⟩

end Go.Proofs.YtekipapkcgoieaaGreatDoor

/- A sign and a size make an integer; small numbers as integers: both programs. -/
namespace Go.Proofs.YtekipapkcgoieaaGreatDoor
open Go.RowKit

/-- The call returns an integer; what was there is as it was. -/
def RInt (w : World) (z : Int) (e : Ending) (w' : World) : Prop := ∃ (s : Bool) (A : Option Addr) (n c : Nat), e = .returned (.agg #[.bool s, .slice A n c]) ∧ IsInt w' (.bool s) (.slice A n c) z ∧ Ext w w'

def signed (neg : Bool) (n : Nat) : Int := if neg then -(n : Int) else n
theorem signed_abs (neg : Bool) (n : Nat) : (signed neg n).natAbs = n := by unfold signed; split <;> omega
theorem signed_neg (neg : Bool) (n : Nat) (h : 0 < n) : decide (signed neg n < 0) = neg := by
  unfold signed; cases neg <;> simp <;> omega
theorem IsInt.mk {w : World} {v : Value} (neg : Bool) (n : Nat) (h : 0 < n) (hv : Words w v (wordsOf n)) : IsInt w (.bool neg) v (signed neg n) :=
  ⟨by rw [signed_neg neg n h], by unfold IsNat; rw [signed_abs]; exact hv⟩
theorem IsInt.zero (w : World) : IsInt w (.bool false) (.slice none 0 0) 0 := ⟨rfl, Words.zero w⟩

set_option maxHeartbeats 400000 in
theorem of_any (neg : Bool) (v : Value) (l : List Nat) (w : World) (hl : W32 l) (hlen : l.length ≤ 1000000000) (h : Words w v l) :
    Calls Tryz.prog 95 #[.bool neg, v] w (RInt w (signed neg (nv l))) := by
  have hC : ∀ W : World, Ext w W → Calls Tryz.prog 124 #[v] W (RWords w W (wordsOf (nv l))) := fun W hW => trim_any v l w W hW hl hlen h
  clear h
  by_cases hn : nv l = 0
  · have hz : signed neg (nv l) = 0 := by rw [hn]; cases neg <;> rfl
    rw [hz]
    have HN := Lib.hid hn
    clear hz hn
    go_enter Tryz.func95, Tryz.ntmps95
    go_wp2_with fail
    refine (hC _ ((Ext.refl _).alloc _)).mono ?_
    rintro e w' ⟨A, n, c, rfl, hv, rfl⟩
    have hn0 : n = 0 := by have := hv.len; rw [HN.out] at this; exact this
    subst hn0
    go_wp2
    refine bodyPost_ret (v := .agg #[.bool false, .slice none 0 0]) (by simp [results, Tryz.results95, go_sem]) rfl ?_
    exact ⟨_, _, _, _, rfl, IsInt.zero _, (Ext.refl _).alloc _⟩
  · have HW := Lib.hid (fun h => hn (wordsOf_len0.1 h) : ¬ (wordsOf (nv l)).length = 0)
    go_enter Tryz.func95, Tryz.ntmps95
    go_wp2_with fail
    refine (hC _ ((Ext.refl _).alloc _)).mono ?_
    rintro e w' ⟨A, n, c, rfl, hv, rfl⟩
    have hn0 : ((n : Int) == 0) = false := by have h1 := hv.len; have h2 : (wordsOf (nv l)).length ≠ 0 := HW.out; rw [beq_eq_false_iff_ne]; omega
    go_wp2
    refine bodyPost_ret (v := .agg #[.bool neg, .slice A n c]) (by simp [results, Tryz.results95, go_sem]) rfl ?_
    exact ⟨_, _, _, _, rfl, IsInt.mk neg _ (Nat.pos_of_ne_zero hn) (hv.ext ((Ext.refl _).alloc _)), (Ext.refl _).alloc _⟩
set_option maxHeartbeats 400000 in
theorem made_any (neg : Bool) (v : Value) (l : List Nat) (w : World) (hl : W32 l) (hlen : l.length ≤ 1000000000) (h : Words w v l) :
    Calls Tryz.prog 40 #[.bool neg, v] w (RInt w (signed neg (nv l))) := by
  have hC : ∀ W : World, Ext w W → Calls Tryz.prog 88 #[v] W (RWords w W (wordsOf (nv l))) := fun W hW => trim1_any v l w W hW hl hlen h
  clear h
  by_cases hn : nv l = 0
  · have hz : signed neg (nv l) = 0 := by rw [hn]; cases neg <;> rfl
    rw [hz]
    have HN := Lib.hid hn
    clear hz hn
    go_enter Tryz.func40, Tryz.ntmps40
    go_wp2_with fail
    refine (hC _ ((Ext.refl _).alloc _)).mono ?_
    rintro e w' ⟨A, n, c, rfl, hv, rfl⟩
    have hn0 : n = 0 := by have := hv.len; rw [HN.out] at this; exact this
    subst hn0
    go_wp2
    refine bodyPost_ret (v := .agg #[.bool false, .slice none 0 0]) (by simp [results, Tryz.results40, go_sem]) rfl ?_
    exact ⟨_, _, _, _, rfl, IsInt.zero _, (Ext.refl _).alloc _⟩
  · have HW := Lib.hid (fun h => hn (wordsOf_len0.1 h) : ¬ (wordsOf (nv l)).length = 0)
    go_enter Tryz.func40, Tryz.ntmps40
    go_wp2_with fail
    refine (hC _ ((Ext.refl _).alloc _)).mono ?_
    rintro e w' ⟨A, n, c, rfl, hv, rfl⟩
    have hn0 : ((n : Int) == 0) = false := by have h1 := hv.len; have h2 : (wordsOf (nv l)).length ≠ 0 := HW.out; rw [beq_eq_false_iff_ne]; omega
    go_wp2
    refine bodyPost_ret (v := .agg #[.bool neg, .slice A n c]) (by simp [results, Tryz.results40, go_sem]) rfl ?_
    exact ⟨_, _, _, _, rfl, IsInt.mk neg _ (Nat.pos_of_ne_zero hn) (hv.ext ((Ext.refl _).alloc _)), (Ext.refl _).alloc _⟩

def w2 (n : Nat) : List Nat := [n % 4294967296, n / 4294967296]
theorem nv_w2 (n : Nat) : nv (w2 n) = n := by simp [w2, nv]; omega
theorem w2_w32 (n : Nat) (h : n < 18446744073709551616) : W32 (w2 n) := W32.cons (by omega) (W32.cons (by omega) W32.nil)

theorem w2_blk {w : World} {g : Nat} {n : Nat} {cs : Array Value} (h : Blk w g 123 cs)
    (e : cs = #[.int .u32 ((n : Int) % 4294967296), .int .u32 ((n : Int) / 4294967296)]) : Words w (.slice (some ⟨g, 0, none⟩) 2 2) (w2 n) := by
  have := Words.of_blk (l := w2 n) (c := 2) (k := 2) (by rw [show u32s (w2 n) = cs from by rw [e]; simp [u32s, w2]]; exact h) (by simp [w2]) (Nat.le_refl _)
  simpa [w2] using this

theorem wrap_neg_neg (n : Nat) (h2 : n ≤ 9223372036854775807) : IntKind.u64.wrap (-IntKind.u64.wrap (-(n : Int))) = (n : Int) := by
  simp only [IntKind.wrap_u64]; omega

set_option maxHeartbeats 400000 in
theorem Of_pos (n : Nat) (w : World) (h2 : n ≤ 9223372036854775807) :
    Calls Tryz.prog 45 #[.int .i64 (n : Int)] w (RInt w (n : Int)) := by
  have hn : ¬ (n : Int) < 0 := by omega
  have h2' : (n : Int) / 4294967296 % 4294967296 = (n : Int) / 4294967296 := by omega
  go_enter Tryz.func45, Tryz.ntmps45
  go_wp2_with fail
  all_goals
    refine (of_any false _ (w2 n) _ (w2_w32 n (by omega)) (by simp [w2]) (w2_blk (g := w.heap.size + 1) (Blk.newAt _ _ _ (by simp)) rfl)).mono ?_
    rintro e w' ⟨s, A, m, c, rfl, hv, he⟩
    have hB := (((Blk.newAt w 37 #[.bool false, .slice none 0 0] rfl).alloc _)).ext he
    obtain ⟨r0, r1, r2, r3⟩ := hB.two
    have hE := (((Ext.refl w).alloc _).alloc _).trans he
    have hsz : w.heap.size < w'.heap.size := by have := he.size'; simp at this; omega
    clear he
    go_wp2
    refine bodyPost_ret (v := .agg #[.bool s, .slice A m c]) (by simp [results, Tryz.results45, go_sem, r0, r1]) rfl ?_
    refine ⟨_, _, _, _, rfl, ?_, (hE.setCell (by simp) _).setCell (by simp) _⟩
    rw [nv_w2] at hv
    exact (hv.setCell hB.type (by decide) _).setCell (hB.type.setCell _ _) (by decide) _
set_option maxHeartbeats 400000 in
theorem Of1_pos (n : Nat) (w : World) (h2 : n ≤ 9223372036854775807) :
    Calls Tryz.prog 12 #[.int .i64 (n : Int)] w (RInt w (n : Int)) := by
  have hn : ¬ (n : Int) < 0 := by omega
  have h2' : (n : Int) / 4294967296 % 4294967296 = (n : Int) / 4294967296 := by omega
  go_enter Tryz.func12, Tryz.ntmps12
  go_wp2_with fail
  all_goals
    refine (made_any false _ (w2 n) _ (w2_w32 n (by omega)) (by simp [w2]) (w2_blk (g := w.heap.size + 1) (Blk.newAt _ _ _ (by simp)) rfl)).mono ?_
    rintro e w' ⟨s, A, m, c, rfl, hv, he⟩
    have hB := (((Blk.newAt w 37 #[.bool false, .slice none 0 0] rfl).alloc _)).ext he
    obtain ⟨r0, r1, r2, r3⟩ := hB.two
    have hE := (((Ext.refl w).alloc _).alloc _).trans he
    have hsz : w.heap.size < w'.heap.size := by have := he.size'; simp at this; omega
    clear he
    go_wp2
    refine bodyPost_ret (v := .agg #[.bool s, .slice A m c]) (by simp [results, Tryz.results12, go_sem, r0, r1]) rfl ?_
    refine ⟨_, _, _, _, rfl, ?_, (hE.setCell (by simp) _).setCell (by simp) _⟩
    rw [nv_w2] at hv
    exact (hv.setCell hB.type (by decide) _).setCell (hB.type.setCell _ _) (by decide) _

set_option maxHeartbeats 400000 in
theorem Of_neg (n : Nat) (w : World) (h1 : 0 < n) (h2 : n ≤ 9223372036854775807) :
    Calls Tryz.prog 45 #[.int .i64 (-(n : Int))] w (RInt w (-(n : Int))) := by
  have h2' : (n : Int) / 4294967296 % 4294967296 = (n : Int) / 4294967296 := by omega
  have h3' := wrap_neg_neg n h2
  go_enter Tryz.func45, Tryz.ntmps45
  go_wp2_with fail
  all_goals
    refine (of_any true _ (w2 n) _ (w2_w32 n (by omega)) (by simp [w2]) (w2_blk (g := w.heap.size + 1) (Blk.newAt _ _ _ (by simp)) rfl)).mono ?_
    rintro e w' ⟨s, A, m, c, rfl, hv, he⟩
    have hB := (((Blk.newAt w 37 #[.bool false, .slice none 0 0] rfl).alloc _)).ext he
    obtain ⟨r0, r1, r2, r3⟩ := hB.two
    have hE := (((Ext.refl w).alloc _).alloc _).trans he
    have hsz : w.heap.size < w'.heap.size := by have := he.size'; simp at this; omega
    clear he
    go_wp2
    refine bodyPost_ret (v := .agg #[.bool s, .slice A m c]) (by simp [results, Tryz.results45, go_sem, r0, r1]) rfl ?_
    refine ⟨_, _, _, _, rfl, ?_, (hE.setCell (by simp) _).setCell (by simp) _⟩
    rw [nv_w2] at hv
    exact (hv.setCell hB.type (by decide) _).setCell (hB.type.setCell _ _) (by decide) _
set_option maxHeartbeats 400000 in
theorem Of1_neg (n : Nat) (w : World) (h1 : 0 < n) (h2 : n ≤ 9223372036854775807) :
    Calls Tryz.prog 12 #[.int .i64 (-(n : Int))] w (RInt w (-(n : Int))) := by
  have h2' : (n : Int) / 4294967296 % 4294967296 = (n : Int) / 4294967296 := by omega
  have h3' := wrap_neg_neg n h2
  go_enter Tryz.func12, Tryz.ntmps12
  go_wp2_with fail
  all_goals
    refine (made_any true _ (w2 n) _ (w2_w32 n (by omega)) (by simp [w2]) (w2_blk (g := w.heap.size + 1) (Blk.newAt _ _ _ (by simp)) rfl)).mono ?_
    rintro e w' ⟨s, A, m, c, rfl, hv, he⟩
    have hB := (((Blk.newAt w 37 #[.bool false, .slice none 0 0] rfl).alloc _)).ext he
    obtain ⟨r0, r1, r2, r3⟩ := hB.two
    have hE := (((Ext.refl w).alloc _).alloc _).trans he
    have hsz : w.heap.size < w'.heap.size := by have := he.size'; simp at this; omega
    clear he
    go_wp2
    refine bodyPost_ret (v := .agg #[.bool s, .slice A m c]) (by simp [results, Tryz.results12, go_sem, r0, r1]) rfl ?_
    refine ⟨_, _, _, _, rfl, ?_, (hE.setCell (by simp) _).setCell (by simp) _⟩
    rw [nv_w2] at hv
    exact (hv.setCell hB.type (by decide) _).setCell (hB.type.setCell _ _) (by decide) _

end Go.Proofs.YtekipapkcgoieaaGreatDoor

/- The reference's sizes: a word of a list, comparisons, sums and differences. -/
namespace Go.Proofs.YtekipapkcgoieaaGreatDoor
open Go.RowKit

theorem u32_info : (Tryz.prog.info? 123).map (fun i => (i.zero, i.size, i.bytes)) = some (some (.int .u32 0), 1, 4) := by kernel_rfl

/-- The call returns a list of words of a value. -/
def RWs (w : World) (m k : Nat) (e : Ending) (w' : World) : Prop :=
  ∃ (ws : List Nat) (A : Option Addr) (n c : Nat), e = .returned (.slice A n c) ∧ Words w' (.slice A n c) ws ∧ W32 ws ∧ nv ws = m ∧ ws.length ≤ k ∧ Ext w w'

theorem Words.of_own {w : World} {base : Nat} {v : Value} {l : List Nat} (h : w.ownsRow base 123 1 v l.length (l.map fun x : Nat => Value.int .u32 (x : Int))) : Words w v l := by
  rcases h.2 with ⟨rfl, h0⟩ | ⟨g, cap, cur, rfl, hb, hh, hn, hc, hs, ht⟩
  · exact .inl ⟨rfl, List.eq_nil_of_length_eq_zero h0⟩
  · have hlt : g < w.heap.size := by
      rcases Nat.lt_or_ge g w.heap.size with h1 | h1
      · exact h1
      · rw [Array.getElem?_eq_none h1] at hh; cases hh
    refine .inr ⟨g, 0, cap, rfl, hn, hlt, ⟨cur, (0, 0), hh⟩, fun j x hx => ?_⟩
    have hj : j < l.length := by
      rcases Nat.lt_or_ge j l.length with h1 | h1
      · exact h1
      · rw [List.getElem?_eq_none h1] at hx; cases hx
    rw [cell_of_row w g (0 + j) cur _ _ hh, Nat.zero_add]
    have e : (cur.toList.take (l.length * 1))[j]? = some (Value.int .u32 (x : Int)) := by rw [ht]; simp [hx]
    rw [List.getElem?_take_of_lt (by omega)] at e
    simpa using e

set_option maxHeartbeats 400000 in
theorem word_any (v : Value) (l : List Nat) (i : Nat) (w : World) (hl : W32 l) (hlen : l.length ≤ 1000000000) (h : Words w v l) :
    Calls Tryz.prog 67 #[v, .int .i64 (i : Int)] w fun e w' => e = .returned (.int .u64 ((l[i]?.getD 0 : Nat) : Int)) ∧ w = w' := by
  by_cases hi : i < l.length
  · obtain ⟨b, o, c, rfl, _, _, _, hx⟩ := h.some_ (by omega)
    have hc := cells_of hx i hi
    have hg := cast_get hl i
    generalize hX : l[i]?.getD 0 = x at *
    have HX := Lib.hid hX
    clear hX
    have hi1 : decide ((l.length : Int) ≤ (i : Int)) = false := by simpa using hi
    clear hx h
    go_enter Tryz.func67, Tryz.ntmps67
    go_wp2
    go_ret
    exact ⟨ret_int rfl, rfl⟩
  · obtain ⟨A, c, rfl⟩ := h.shape
    have hi1 : decide ((l.length : Int) ≤ (i : Int)) = true := by simp; omega
    have hz := Lib.hid (by simp [List.getElem?_eq_none (Nat.le_of_not_lt hi)] : l[i]?.getD 0 = 0)
    clear h
    go_enter Tryz.func67, Tryz.ntmps67
    go_wp2
    go_ret
    exact ⟨ret_int (by rw [hz.out]; rfl), rfl⟩

set_option maxRecDepth 100000 in
set_option maxHeartbeats 800000 in
theorem plus_any (v u : Value) (a b : List Nat) (w : World) (ha : W32 a) (hb : W32 b) (hal : a.length ≤ 100000000) (hbl : b.length ≤ 100000000) (h1 : Words w v a) (h2 : Words w u b) :
    Calls Tryz.prog 55 #[v, u] w (RWs w (nv a + nv b) (max a.length b.length + 1)) := by
  obtain ⟨i0, hi, hz0, hz1, hz2⟩ := info_parts u32_info
  obtain ⟨A, c, rfl⟩ := h1.shape
  obtain ⟨B, d, rfl⟩ := h2.shape
  have H1 := Lib.hid h1
  have H2 := Lib.hid h2
  clear h1 h2
  obtain ⟨M, hM, hM1, hM2⟩ : ∃ M : Nat, (if a.length < b.length then (b.length : Int) else (a.length : Int)) = (M : Int) ∧ M = max a.length b.length ∧ M ≤ 100000000 := ⟨max a.length b.length, by split <;> omega, rfl, by omega⟩
  have HM := Lib.hid hM1
  clear hM1
  go_enter Tryz.func55, Tryz.ntmps55
  go_wp2
  go_loopw [5, 6, 7] (fun t cy i wr => ∃ (k : Nat) (acc : List Nat) (c : Nat) (A' : Option Addr) (cp : Nat), k ≤ M ∧ i = .int .i64 (k : Int) ∧ cy = .int .u64 (c : Int) ∧ c ≤ 1 ∧ t = .slice A' k cp ∧
      wr.ownsRow w.heap.size 123 1 (.slice A' k cp) k (acc.map fun x : Nat => Value.int .u32 (x : Int)) ∧ Hid (acc.length = k ∧ W32 acc ∧ nv acc + 4294967296 ^ k * c = nv (a.take k) + nv (b.take k)) ∧ Ext w wr) (fun _ _ i _ => M - (intOf i).toNat)
  case atStart =>
    refine ⟨0, [], 0, _, _, Nat.zero_le _, rfl, rfl, by omega, rfl, ?_, ⟨rfl, W32.nil, by simp [nv]⟩, (Ext.refl _).alloc _⟩
    exact ⟨rfl, .inr ⟨w.heap.size, 0, #[], rfl, Nat.le_refl _, heap_alloc_new w _, Nat.le_refl _, Nat.zero_le _, rfl, rfl⟩⟩
  case round =>
    obtain ⟨k, acc, cc, A', cp, hk, rfl, rfl, hcc, rfl, hown, hI, hE⟩ := hrel
    have W1 := H1.out.ext hE
    have W2 := H2.out.ext hE
    obtain ⟨x, hx⟩ : ∃ x, x = a[k]?.getD 0 := ⟨_, rfl⟩
    obtain ⟨y, hy⟩ : ∃ y, y = b[k]?.getD 0 := ⟨_, rfl⟩
    have g1 := cast_get ha k
    have g2 := cast_get hb k
    rw [← hx] at g1
    rw [← hy] at g2
    have c1 : Calls Tryz.prog 67 #[.slice A a.length c, .int .i64 (k : Int)] wr fun e w' => e = .returned (.int .u64 (x : Int)) ∧ wr = w' := by
      rw [hx]; exact word_any _ a k wr ha (by omega) W1
    have c2 : Calls Tryz.prog 67 #[.slice B b.length d, .int .i64 (k : Int)] wr fun e w' => e = .returned (.int .u64 (y : Int)) ∧ wr = w' := by
      rw [hy]; exact word_any _ b k wr hb (by omega) W2
    have HC1 := Lib.hid c1
    have HC2 := Lib.hid c2
    have HX := Lib.hid hx
    have HY := Lib.hid hy
    clear W1 W2 hx hy c1 c2
    have hb0 := hE.size'
    by_cases hlt : k < M
    · go_wp2_with fail
      refine HC1.out.mono ?_
      rintro e w' ⟨rfl, rfl⟩
      go_wp2_with fail
      refine HC2.out.mono ?_
      rintro e w' ⟨rfl, rfl⟩
      go_wp2_with (at_builtin; refine Hid.out ?_)
      refine wpList_append_own _ rfl (.tmp 27) (.tmp 30) _ rfl w.heap.size 123 i0 (.int .u32 0) 1 4 Tryz.underlying35 hi hz0 hz1 hz2 rfl (by decide) (.slice A' k cp) k _ rfl (hown.alloc _) ⟨wr.heap.size, 0, none⟩ 1 1 [.int .u32 (((cc : Int) + ((x : Int) + y)) % 4294967296)] rfl rfl (cell_one_new _ _ _) (by simp [Value.oneCell']) (by unfold maxLen; omega) (by omega) (by simp; omega) ?_
      intro v' w1 hown' hgrow _
      obtain ⟨g', cap', rfl⟩ := own_succ hown'
      have hE2 : Ext w w1 := (hE.alloc _).grown hgrow (own_block hown)
      clear hown hgrow
      go_wp2
      go_roundw
      case rel =>
        obtain ⟨e1, e2, e3⟩ := hI.out
        refine ⟨k + 1, acc ++ [(cc + (x + y)) % 4294967296], (cc + (x + y)) / 4294967296, some ⟨g', 0, none⟩, cap', by omega, by go_num, by go_num, by omega, rfl, ?_, ⟨by simp [e1], e2.append (W32.cons (by omega) W32.nil), ?_⟩, hE2⟩
        · simpa using hown'
        · rw [nv_snoc, nv_take_succ, nv_take_succ, ← HX.out, ← HY.out, e1]
          have := sum_step (x := x) (y := y) k e3
          rw [show cc + (x + y) = x + y + cc from by omega]
          exact this
      case measure => (simp [intOf] <;> omega)
    · go_wp2_with (at_builtin; refine Hid.out ?_)
      refine wpList_append_own _ rfl (.tmp 34) (.tmp 37) _ rfl w.heap.size 123 i0 (.int .u32 0) 1 4 Tryz.underlying35 hi hz0 hz1 hz2 rfl (by decide) (.slice A' k cp) k _ rfl (hown.alloc _) ⟨wr.heap.size, 0, none⟩ 1 1 [.int .u32 (cc : Int)] rfl rfl (cell_one_new _ _ _) (by simp [Value.oneCell']) (by unfold maxLen; omega) (by omega) (by simp; omega) ?_
      intro v' w1 hown' hgrow _
      obtain ⟨g', cap', rfl⟩ := own_succ hown'
      have hE2 : Ext w w1 := (hE.alloc _).grown hgrow (own_block hown)
      clear hown hgrow
      go_wp2
      go_ret
      obtain ⟨e1, e2, e3⟩ := hI.out
      have hkM : k = M := by omega
      have eM := HM.out
      refine ⟨acc ++ [cc], _, _, _, rfl, Words.of_own (base := w.heap.size) ?_, e2.append (W32.cons (by omega) W32.nil), ?_, by simp; omega, hE2⟩
      · simpa [e1] using hown'
      · rw [nv_snoc, e1, e3, nv_take_all a k (by omega), nv_take_all b k (by omega)]

end Go.Proofs.YtekipapkcgoieaaGreatDoor

/- The program's sizes: sums and differences. -/
namespace Go.Proofs.YtekipapkcgoieaaGreatDoor
open Go.RowKit

/-- The call returns a number's canonical words. -/
def RNat (w : World) (m : Nat) (e : Ending) (w' : World) : Prop := ∃ (A : Option Addr) (n c : Nat), e = .returned (.slice A n c) ∧ IsNat w' (.slice A n c) m ∧ Ext w w'

theorem u32_zeros (n : Nat) : madeCells (Value.int .u32 0).cells (n * 1) = u32s (List.replicate n 0) := by
  apply Array.ext
  · simp [madeCells, u32s]
  · intro i h1 h2
    simp [madeCells, u32s, Value.cells, Nat.mod_one]

theorem run_make_nat (W : World) (n : Nat) (hn : n ≤ 1000000000) :
    (Instr.makeSlice 167 (.int .i64 (n : Int)) (.int .i64 (n : Int))).run Tryz.prog W = .ok (.slice (some ⟨W.heap.size, 0, none⟩) n n) (W.alloc (.cells (u32s (List.replicate n 0)) 123)) := by
  obtain ⟨i0, hi, hz0, hz1, hz2⟩ := info_parts u32_info
  have h := run_make (P := Tryz.prog) W 167 123 i0 (.int .u32 0) Tryz.underlying167 hi hz0 .i64 .i64 (n : Int) (n : Int) (by omega) (by omega) (by rw [hz2]; omega) (by omega)
  rw [Int.toNat_natCast, hz1, u32_zeros] at h
  exact h
theorem run_make_u32s1 (W : World) (n : Nat) (hn : n ≤ 1000000000) :
    (Instr.makeSlice 35 (.int .i64 (n : Int)) (.int .i64 (n : Int))).run Tryz.prog W = .ok (.slice (some ⟨W.heap.size, 0, none⟩) n n) (W.alloc (.cells (u32s (List.replicate n 0)) 123)) := by
  obtain ⟨i0, hi, hz0, hz1, hz2⟩ := info_parts u32_info
  have h := run_make (P := Tryz.prog) W 35 123 i0 (.int .u32 0) Tryz.underlying35 hi hz0 .i64 .i64 (n : Int) (n : Int) (by omega) (by omega) (by rw [hz2]; omega) (by omega)
  rw [Int.toNat_natCast, hz1, u32_zeros] at h
  exact h

theorem nv_snoc0 (l : List Nat) : nv (l ++ [0]) = nv l := by rw [nv_snoc]; simp
theorem getD_snoc0 (l : List Nat) (j : Nat) : (l ++ [0])[j]?.getD 0 = l[j]?.getD 0 := by
  by_cases h : j < l.length
  · rw [List.getElem?_append_left h]
  · rw [List.getElem?_append_right (by omega), List.getElem?_eq_none (by omega : l.length ≤ j)]
    by_cases h2 : j - l.length = 0
    · simp [h2]
    · rw [List.getElem?_eq_none (by simp; omega)]
theorem take_set_succ (l : List Nat) (i v : Nat) (h : i < l.length) : (l.set i v).take (i + 1) = l.take i ++ [v] := by
  rw [List.take_succ_eq_append_getElem (by simpa using h)]
  simp [List.take_set_of_le]

set_option maxRecDepth 100000 in
set_option maxHeartbeats 1000000 in
theorem nadd_le (v u : Value) (a b : List Nat) (w : World) (ha : W32 a) (hb : W32 b) (hal : a.length ≤ 100000000) (hbl : b.length ≤ 100000000) (hlt : ¬ a.length < b.length) (h1 : Words w v a) (h2 : Words w u b) :
    Calls Tryz.prog 111 #[v, u] w (RNat w (nv a + nv b)) := by
  obtain ⟨A, c, rfl⟩ := h1.shape
  obtain ⟨B, d, rfl⟩ := h2.shape
  have H1 := Lib.hid h1
  have H2 := Lib.hid h2
  clear h1 h2
  obtain ⟨M, hM, hM2⟩ : ∃ M : Nat, (a.length : Int) + 1 = (M : Int) ∧ M ≤ 1000000000 := ⟨a.length + 1, by omega, by omega⟩
  have hmk := fun W => run_make_nat W M hM2
  go_enter Tryz.func111, Tryz.ntmps111
  go_wp2_with (with_reducible refine stop_at 22 ?_)
  refine wpList_copy_splice rfl (.tmp 20) (.tmp 21) _ _ rfl 123 Tryz.underlying167 (by kernel_rfl) (some ⟨w.heap.size, 0, none⟩) A M M a.length c rfl rfl w.heap.size 0
    ((List.replicate M 0).map fun x : Nat => Value.int .u32 (x : Int)) 123 (heap_alloc_new w _) (a.map fun x : Nat => Value.int .u32 (x : Int)) (by simp; exact (Nat.min_eq_left (by omega)).symm) (fun h => ⟨rfl, H1.out.src ((Ext.refl w).alloc _) (by simpa using h)⟩)
    (by simp; omega) (by simp [Value.oneCell']) w.heap.size w ((Below.refl _ w).alloc (Nat.le_refl _) _) (Nat.le_refl _) ?_
  intro w1 hB hb1
  have hB' : Blk w1 w.heap.size 123 (u32s (a ++ [0])) := by
    have := hB.out
    rw [show (splice ((List.replicate M 0).map fun x : Nat => Value.int .u32 (x : Int)) 0 (a.map fun x : Nat => Value.int .u32 (x : Int))) = (a ++ [0]).map fun x : Nat => Value.int .u32 (x : Int) from by
      simp [splice, show M - a.length = 1 from by omega]] at this
    exact this
  clear hB
  have hB := Lib.hid hB'
  clear hB'
  go_wp2
  go_loopw [6, 25] (fun cy i wr => ∃ (k : Nat) (L : List Nat) (c : Nat), k ≤ M ∧ i = .int .i64 (k : Int) ∧ cy = .int .u32 (c : Int) ∧ c ≤ 1 ∧
      Hid (Blk wr w.heap.size 123 (u32s L)) ∧ Hid (L.length = M ∧ W32 L ∧ (∀ j, k ≤ j → L[j]?.getD 0 = a[j]?.getD 0) ∧ nv (L.take k) + 4294967296 ^ k * c = nv (a.take k) + nv (b.take k)) ∧ Ext w wr) (fun _ i _ => M - (intOf i).toNat)
  case atStart => exact ⟨0, a ++ [0], 0, Nat.zero_le _, rfl, rfl, by omega, hB, ⟨by simp; omega, ha.append (W32.cons (by omega) W32.nil), (fun j _ => getD_snoc0 a j), by simp [nv]⟩, hb1⟩
  case round =>
    obtain ⟨k, L, cc, hk, rfl, rfl, hcc, hBl, hI, hE⟩ := hrel
    by_cases hlt : k < M
    · obtain ⟨x, hx⟩ : ∃ x, x = L[k]?.getD 0 := ⟨_, rfl⟩
      obtain ⟨y, hy⟩ : ∃ y, y = b[k]?.getD 0 := ⟨_, rfl⟩
      have g1 := cast_get hI.out.2.1 k
      have g2 := cast_get hb k
      rw [← hx] at g1
      rw [← hy] at g2
      have hcell : wr.cell? ⟨w.heap.size, k, none⟩ = some (.int .u32 (x : Int)) := by
        rw [hBl.out.cell k, hx]; exact u32s_get _ _ _ (by have := hI.out.1; rw [List.getElem?_eq_getElem (by omega)]; rfl)
      have hfr := hBl.out.frozen k
      have HX := Lib.hid hx
      have HY := Lib.hid hy
      clear hx hy
      have fin : ∀ w2, Blk w2 w.heap.size 123 ((u32s L).setIfInBounds k (.int .u32 (((x : Int) + y + cc) % 4294967296))) → Ext w w2 →
          ∃ (k' : Nat) (L' : List Nat) (c' : Nat), k' ≤ M ∧ ((k : Int) + 1) = (k' : Int) ∧ ((x : Int) + y + cc) / 4294967296 = (c' : Int) ∧ c' ≤ 1 ∧
      Hid (Blk w2 w.heap.size 123 (u32s L')) ∧ Hid (L'.length = M ∧ W32 L' ∧ (∀ j, k' ≤ j → L'[j]?.getD 0 = a[j]?.getD 0) ∧ nv (L'.take k') + 4294967296 ^ k' * c' = nv (a.take k') + nv (b.take k')) ∧ Ext w w2 := by
        intro w2 h2 h3
        obtain ⟨e1, e2, e3, e4⟩ := hI.out
        refine ⟨k + 1, L.set k ((x + y + cc) % 4294967296), (x + y + cc) / 4294967296, by omega, by omega, by omega, by omega, ?_, ⟨by simpa using e1, e2.set k _ (by omega), fun j hj => ?_, ?_⟩, h3⟩
        · show Blk _ _ _ _
          rw [← u32s_set]
          exact h2
        · rw [getD_set_other _ _ _ _ (by omega)]; exact e3 j (by omega)
        · rw [take_set_succ _ _ _ (by omega), nv_snoc, nv_take_succ, nv_take_succ, List.length_take, Nat.min_eq_left (by omega), ← HY.out, show a[k]?.getD 0 = x from by rw [HX.out, e3 k (Nat.le_refl _)]]
          exact sum_step k e4
      have HF := Lib.hid fin
      clear fin
      have hsz : w.heap.size ≤ w.heap.size := Nat.le_refl _
      by_cases hkb : k < b.length
      · obtain ⟨bb, bo, rfl, hcy⟩ := H2.out.word hE k hkb
        rw [← HY.out] at hcy
        go_wp2_with (go_at_call 138; refine (add32_any _ _ _ (by omega) (by omega) (by omega) (by omega) (by omega) (by omega) _).mono ?_; rintro e w' ⟨rfl, rfl⟩)
        obtain ⟨k', L', c', f1, f2, f3, f4, f5, f6, f7⟩ := HF.out _ (hBl.out.set_ k _) (hE.setCell (p := ⟨w.heap.size, k, none⟩) (Nat.le_refl _) _)
        go_roundw
        case rel => exact ⟨k', L', c', f1, by rw [← f2], by rw [← f3], f4, f5, f6, f7⟩
        case measure => (simp [intOf] <;> omega)
      · have hy0 : y = 0 := by rw [HY.out, List.getElem?_eq_none (by omega)]; rfl
        have HF0 := HF.out
        rw [hy0] at HF0
        simp only [show ((0 : Nat) : Int) = 0 from rfl, Int.add_zero] at HF0
        have HF1 := Lib.hid HF0
        clear HF0 HF HY hy0 g2
        go_wp2_with (go_at_call 138; refine (add32_any _ _ _ (by omega) (by omega) (by omega) (by omega) (by omega) (by omega) _).mono ?_; rintro e w' ⟨rfl, rfl⟩)
        obtain ⟨k', L', c', f1, f2, f3, f4, f5, f6, f7⟩ := HF1.out _ (hBl.out.set_ k _) (hE.setCell (p := ⟨w.heap.size, k, none⟩) (Nat.le_refl _) _)
        go_roundw
        case rel => exact ⟨k', L', c', f1, by rw [← f2], by rw [← f3], f4, f5, f6, f7⟩
        case measure => (simp [intOf] <;> omega)
    · go_wp2_with fail
      have hkM : k = M := by omega
      subst hkM
      obtain ⟨e1, e2, e3, e4⟩ := hI.out
      have e5 : nv L = nv a + nv b := by
        rw [nv_take_all _ _ (by omega), nv_take_all _ _ (by omega), nv_take_all _ _ (by omega)] at e4
        have h5 := nv_lt ha
        have h6 := nv_lt hb
        have h7 : 4294967296 ^ b.length ≤ 4294967296 ^ a.length := Nat.pow_le_pow_right (by omega) (by omega)
        have h8 : 4294967296 ^ k = 4294967296 * 4294967296 ^ a.length := by rw [show k = a.length + 1 from by omega, Nat.pow_succ, Nat.mul_comm]
        rcases Nat.eq_zero_or_pos cc with h9 | h9
        · rw [h9] at e4; omega
        · have : cc = 1 := by omega
          rw [this, h8] at e4; omega
      have hW : Words wr (.slice (some ⟨w.heap.size, 0, none⟩) k k) L := by
        have := Words.of_blk (k := k) (c := k) hBl.out (by omega) (Nat.le_refl _)
        rwa [List.take_of_length_le (by omega)] at this
      refine (trim_any _ L wr wr (Ext.refl _) e2 (by omega) hW).mono ?_
      rintro e w' ⟨A', n', c', rfl, hv, rfl⟩
      go_wp2
      go_ret
      exact ⟨_, _, _, rfl, by unfold IsNat; rw [← e5]; exact hv, hE⟩
set_option maxRecDepth 100000 in
set_option maxHeartbeats 1000000 in
theorem nadd_gt (v u : Value) (a b : List Nat) (w : World) (ha : W32 a) (hb : W32 b) (hal : a.length ≤ 100000000) (hbl : b.length ≤ 100000000) (hlt : b.length < a.length) (h1 : Words w v a) (h2 : Words w u b) :
    Calls Tryz.prog 111 #[u, v] w (RNat w (nv a + nv b)) := by
  obtain ⟨A, c, rfl⟩ := h1.shape
  obtain ⟨B, d, rfl⟩ := h2.shape
  have H1 := Lib.hid h1
  have H2 := Lib.hid h2
  clear h1 h2
  obtain ⟨M, hM, hM2⟩ : ∃ M : Nat, (a.length : Int) + 1 = (M : Int) ∧ M ≤ 1000000000 := ⟨a.length + 1, by omega, by omega⟩
  have hmk := fun W => run_make_nat W M hM2
  go_enter Tryz.func111, Tryz.ntmps111
  go_wp2_with (with_reducible refine stop_at 22 ?_)
  refine wpList_copy_splice rfl (.tmp 20) (.tmp 21) _ _ rfl 123 Tryz.underlying167 (by kernel_rfl) (some ⟨w.heap.size, 0, none⟩) A M M a.length c rfl rfl w.heap.size 0
    ((List.replicate M 0).map fun x : Nat => Value.int .u32 (x : Int)) 123 (heap_alloc_new w _) (a.map fun x : Nat => Value.int .u32 (x : Int)) (by simp; exact (Nat.min_eq_left (by omega)).symm) (fun h => ⟨rfl, H1.out.src ((Ext.refl w).alloc _) (by simpa using h)⟩)
    (by simp; omega) (by simp [Value.oneCell']) w.heap.size w ((Below.refl _ w).alloc (Nat.le_refl _) _) (Nat.le_refl _) ?_
  intro w1 hB hb1
  have hB' : Blk w1 w.heap.size 123 (u32s (a ++ [0])) := by
    have := hB.out
    rw [show (splice ((List.replicate M 0).map fun x : Nat => Value.int .u32 (x : Int)) 0 (a.map fun x : Nat => Value.int .u32 (x : Int))) = (a ++ [0]).map fun x : Nat => Value.int .u32 (x : Int) from by
      simp [splice, show M - a.length = 1 from by omega]] at this
    exact this
  clear hB
  have hB := Lib.hid hB'
  clear hB'
  go_wp2
  go_loopw [6, 25] (fun cy i wr => ∃ (k : Nat) (L : List Nat) (c : Nat), k ≤ M ∧ i = .int .i64 (k : Int) ∧ cy = .int .u32 (c : Int) ∧ c ≤ 1 ∧
      Hid (Blk wr w.heap.size 123 (u32s L)) ∧ Hid (L.length = M ∧ W32 L ∧ (∀ j, k ≤ j → L[j]?.getD 0 = a[j]?.getD 0) ∧ nv (L.take k) + 4294967296 ^ k * c = nv (a.take k) + nv (b.take k)) ∧ Ext w wr) (fun _ i _ => M - (intOf i).toNat)
  case atStart => exact ⟨0, a ++ [0], 0, Nat.zero_le _, rfl, rfl, by omega, hB, ⟨by simp; omega, ha.append (W32.cons (by omega) W32.nil), (fun j _ => getD_snoc0 a j), by simp [nv]⟩, hb1⟩
  case round =>
    obtain ⟨k, L, cc, hk, rfl, rfl, hcc, hBl, hI, hE⟩ := hrel
    by_cases hlt : k < M
    · obtain ⟨x, hx⟩ : ∃ x, x = L[k]?.getD 0 := ⟨_, rfl⟩
      obtain ⟨y, hy⟩ : ∃ y, y = b[k]?.getD 0 := ⟨_, rfl⟩
      have g1 := cast_get hI.out.2.1 k
      have g2 := cast_get hb k
      rw [← hx] at g1
      rw [← hy] at g2
      have hcell : wr.cell? ⟨w.heap.size, k, none⟩ = some (.int .u32 (x : Int)) := by
        rw [hBl.out.cell k, hx]; exact u32s_get _ _ _ (by have := hI.out.1; rw [List.getElem?_eq_getElem (by omega)]; rfl)
      have hfr := hBl.out.frozen k
      have HX := Lib.hid hx
      have HY := Lib.hid hy
      clear hx hy
      have fin : ∀ w2, Blk w2 w.heap.size 123 ((u32s L).setIfInBounds k (.int .u32 (((x : Int) + y + cc) % 4294967296))) → Ext w w2 →
          ∃ (k' : Nat) (L' : List Nat) (c' : Nat), k' ≤ M ∧ ((k : Int) + 1) = (k' : Int) ∧ ((x : Int) + y + cc) / 4294967296 = (c' : Int) ∧ c' ≤ 1 ∧
      Hid (Blk w2 w.heap.size 123 (u32s L')) ∧ Hid (L'.length = M ∧ W32 L' ∧ (∀ j, k' ≤ j → L'[j]?.getD 0 = a[j]?.getD 0) ∧ nv (L'.take k') + 4294967296 ^ k' * c' = nv (a.take k') + nv (b.take k')) ∧ Ext w w2 := by
        intro w2 h2 h3
        obtain ⟨e1, e2, e3, e4⟩ := hI.out
        refine ⟨k + 1, L.set k ((x + y + cc) % 4294967296), (x + y + cc) / 4294967296, by omega, by omega, by omega, by omega, ?_, ⟨by simpa using e1, e2.set k _ (by omega), fun j hj => ?_, ?_⟩, h3⟩
        · show Blk _ _ _ _
          rw [← u32s_set]
          exact h2
        · rw [getD_set_other _ _ _ _ (by omega)]; exact e3 j (by omega)
        · rw [take_set_succ _ _ _ (by omega), nv_snoc, nv_take_succ, nv_take_succ, List.length_take, Nat.min_eq_left (by omega), ← HY.out, show a[k]?.getD 0 = x from by rw [HX.out, e3 k (Nat.le_refl _)]]
          exact sum_step k e4
      have HF := Lib.hid fin
      clear fin
      have hsz : w.heap.size ≤ w.heap.size := Nat.le_refl _
      by_cases hkb : k < b.length
      · obtain ⟨bb, bo, rfl, hcy⟩ := H2.out.word hE k hkb
        rw [← HY.out] at hcy
        go_wp2_with (go_at_call 138; refine (add32_any _ _ _ (by omega) (by omega) (by omega) (by omega) (by omega) (by omega) _).mono ?_; rintro e w' ⟨rfl, rfl⟩)
        obtain ⟨k', L', c', f1, f2, f3, f4, f5, f6, f7⟩ := HF.out _ (hBl.out.set_ k _) (hE.setCell (p := ⟨w.heap.size, k, none⟩) (Nat.le_refl _) _)
        go_roundw
        case rel => exact ⟨k', L', c', f1, by rw [← f2], by rw [← f3], f4, f5, f6, f7⟩
        case measure => (simp [intOf] <;> omega)
      · have hy0 : y = 0 := by rw [HY.out, List.getElem?_eq_none (by omega)]; rfl
        have HF0 := HF.out
        rw [hy0] at HF0
        simp only [show ((0 : Nat) : Int) = 0 from rfl, Int.add_zero] at HF0
        have HF1 := Lib.hid HF0
        clear HF0 HF HY hy0 g2
        go_wp2_with (go_at_call 138; refine (add32_any _ _ _ (by omega) (by omega) (by omega) (by omega) (by omega) (by omega) _).mono ?_; rintro e w' ⟨rfl, rfl⟩)
        obtain ⟨k', L', c', f1, f2, f3, f4, f5, f6, f7⟩ := HF1.out _ (hBl.out.set_ k _) (hE.setCell (p := ⟨w.heap.size, k, none⟩) (Nat.le_refl _) _)
        go_roundw
        case rel => exact ⟨k', L', c', f1, by rw [← f2], by rw [← f3], f4, f5, f6, f7⟩
        case measure => (simp [intOf] <;> omega)
    · go_wp2_with fail
      have hkM : k = M := by omega
      subst hkM
      obtain ⟨e1, e2, e3, e4⟩ := hI.out
      have e5 : nv L = nv a + nv b := by
        rw [nv_take_all _ _ (by omega), nv_take_all _ _ (by omega), nv_take_all _ _ (by omega)] at e4
        have h5 := nv_lt ha
        have h6 := nv_lt hb
        have h7 : 4294967296 ^ b.length ≤ 4294967296 ^ a.length := Nat.pow_le_pow_right (by omega) (by omega)
        have h8 : 4294967296 ^ k = 4294967296 * 4294967296 ^ a.length := by rw [show k = a.length + 1 from by omega, Nat.pow_succ, Nat.mul_comm]
        rcases Nat.eq_zero_or_pos cc with h9 | h9
        · rw [h9] at e4; omega
        · have : cc = 1 := by omega
          rw [this, h8] at e4; omega
      have hW : Words wr (.slice (some ⟨w.heap.size, 0, none⟩) k k) L := by
        have := Words.of_blk (k := k) (c := k) hBl.out (by omega) (Nat.le_refl _)
        rwa [List.take_of_length_le (by omega)] at this
      refine (trim_any _ L wr wr (Ext.refl _) e2 (by omega) hW).mono ?_
      rintro e w' ⟨A', n', c', rfl, hv, rfl⟩
      go_wp2
      go_ret
      exact ⟨_, _, _, rfl, by unfold IsNat; rw [← e5]; exact hv, hE⟩

theorem nadd_any (v u : Value) (a b : List Nat) (w : World) (ha : W32 a) (hb : W32 b) (hal : a.length ≤ 100000000) (hbl : b.length ≤ 100000000) (h1 : Words w v a) (h2 : Words w u b) :
    Calls Tryz.prog 111 #[v, u] w (RNat w (nv a + nv b)) := by
  by_cases h : a.length < b.length
  · rw [Nat.add_comm]; exact nadd_gt u v b a w hb ha hbl hal h h2 h1
  · exact nadd_le v u a b w ha hb hal hbl h h1 h2

end Go.Proofs.YtekipapkcgoieaaGreatDoor
