/-
  The reference's square roots of small numbers.
  Slices whose elements are of several cells; what of memory a reading leans on; large structs by value.
  Entries on a shelf: what they read as in memory; slices of them.
  The reference's shelves: an entry of a new name is laid in.
  The reference's shelves: the entries of a name.
  All of a list are in another one; two lists of names are the same.
-/
import Derived.Test.YtekipapkcgoieaaGreatDoorJ08
import Derived.WalkLawsBesides
import Derived.Deep.MidRow
import Derived.Laws.AppendOwnNone
import Derived.Sort.Walk0
set_option linter.unusedVariables false
set_option linter.unusedSimpArgs false

/- The reference's square roots of small numbers. -/
namespace Go.Proofs.YtekipapkcgoieaaGreatDoor
open Go.RowKit
attribute [local go_sem ↓] Go.wp_at_zero Go.wp_at_succ

end Go.Proofs.YtekipapkcgoieaaGreatDoor

/- Slices whose elements are of several cells; what of memory a reading leans on; large structs by value. -/
namespace Go.Proofs.YtekipapkcgoieaaGreatDoor
open Go.RowKit

/-- Every block of one of these types is as it was. -/
def KeepT (ts : List TypeId) (w w' : World) : Prop := w.heap.size ≤ w'.heap.size ∧ ∀ (b : Nat) (cs : Array Value) (t : TypeId) (fz : Nat × Nat), w.heap[b]? = some (.cells cs t fz) → t ∈ ts → w'.heap[b]? = some (.cells cs t fz)
theorem KeepT.refl (ts : List TypeId) (w : World) : KeepT ts w w := ⟨Nat.le_refl _, fun _ _ _ _ h _ => h⟩
theorem KeepT.trans {ts : List TypeId} {a b c : World} (h : KeepT ts a b) (k : KeepT ts b c) : KeepT ts a c := ⟨Nat.le_trans h.1 k.1, fun g cs t fz hg ht => k.2 g cs t fz (h.2 g cs t fz hg ht) ht⟩
theorem block_lt {w : World} {b : Nat} {o : Obj} (h : w.heap[b]? = some o) : b < w.heap.size := by
  rcases Nat.lt_or_ge b w.heap.size with h1 | h1
  · exact h1
  · rw [Array.getElem?_eq_none h1] at h; cases h
theorem KeepT.ext {ts : List TypeId} {w w' : World} (h : Ext w w') : KeepT ts w w' := ⟨h.size', fun b _ _ _ hb _ => (h.block b (block_lt hb)).trans hb⟩
theorem KeepT.set {ts : List TypeId} {a w : World} {p : Addr} {s : TypeId} (h : KeepT ts a w) (hp : TypeAt w p.block s) (hs : s ∉ ts) (u : Value) : KeepT ts a (w.setCell p u) := by
  refine h.trans ⟨by simp [World.setCell], fun b cs t fz hb ht => ?_⟩
  have hne : b ≠ p.block := by
    rintro rfl
    obtain ⟨ds, gz, k⟩ := hp
    rw [hb] at k; injection k with k; injection k with _ k; exact hs (k ▸ ht)
  exact (Below.heap_setCell w p u b hne).trans hb
theorem KeepT.mono {ts us : List TypeId} {w w' : World} (h : KeepT ts w w') (hs : ∀ t ∈ us, t ∈ ts) : KeepT us w w' := ⟨h.1, fun b cs t fz hb ht => h.2 b cs t fz hb (hs t ht)⟩
theorem TypeAt.keepT {ts : List TypeId} {w w' : World} {b : Nat} {t : TypeId} (h : TypeAt w b t) (k : KeepT ts w w') (ht : t ∈ ts) : TypeAt w' b t := by
  obtain ⟨cs, fz, h⟩ := h
  exact ⟨cs, fz, k.2 b cs t fz h ht⟩
theorem KeepT.cell {ts : List TypeId} {w w' : World} (k : KeepT ts w w') {b : Nat} {t : TypeId} (h : TypeAt w b t) (ht : t ∈ ts) (o : Nat) : w'.cell? ⟨b, o, none⟩ = w.cell? ⟨b, o, none⟩ := by
  obtain ⟨cs, fz, h⟩ := h
  rw [cell_of_row w b o cs t fz h, cell_of_row w' b o cs t fz (k.2 b cs t fz h ht)]
theorem rangeAt_keepT {ts : List TypeId} {w w' : World} {b o : Nat} {t : TypeId} {l : List Value} (h : w.rangeAt b o l) (k : KeepT ts w w') (hb : TypeAt w b t) (ht : t ∈ ts) : w'.rangeAt b o l := fun j v hv => by
  rw [k.cell hb ht]; exact h j v hv

theorem Words.keep {w w' : World} {v : Value} {l : List Nat} (h : Words w v l) (k : KeepT [123] w w') : Words w' v l := by
  rcases h with h | ⟨b, o, c, h1, h2, h3, h5, h4⟩
  · exact .inl h
  · exact .inr ⟨b, o, c, h1, h2, (h5.keepT k (by decide)).lt, h5.keepT k (by decide), fun j x hx => (k.cell h5 (by decide) _).trans (h4 j x hx)⟩
theorem IsInt.keep {w w' : World} {b v : Value} {z : Int} (h : IsInt w b v z) (k : KeepT [123] w w') : IsInt w' b v z := ⟨h.1, Words.keep h.2 k⟩
theorem IsRat.keep {w w' : World} {a b c d : Value} {q : Rat} (h : IsRat w a b c d q) (k : KeepT [123] w w') : IsRat w' a b c d q := ⟨h.1.keep k, h.2.keep k⟩

theorem rangeAt_new (w : World) (l : List Value) (t : TypeId) {g : Nat} (hg : w.heap.size = g) : (w.alloc (.cells l.toArray t)).rangeAt g 0 l := fun j v hv => by
  have := (Blk.newAt w t l.toArray hg).cell j
  rw [Nat.zero_add, this]; simpa using hv
theorem Blk.range {w : World} {g : Nat} {t : TypeId} {l : List Value} (h : Blk w g t l.toArray) : w.rangeAt g 0 l := fun j v hv => by
  rw [Nat.zero_add, h.cell j]; simpa using hv
/-- The elements of a slice, each of k cells. -/
def RowsOf (t : TypeId) (k : Nat) (w : World) (v : Value) (ls : List (List Value)) : Prop :=
  (∀ l ∈ ls, l.length = k ∧ ∀ u ∈ l, u.oneCell' = true) ∧
    ((v = .slice none 0 0 ∧ ls = []) ∨
      ∃ b o c, v = .slice (some ⟨b, o, none⟩) ls.length c ∧ ls.length ≤ c ∧ TypeAt w b t ∧ ∀ j l, ls[j]? = some l → w.rangeAt b (o + j * k) l)
section
variable {t : TypeId} {k : Nat} {w w' : World} {v : Value} {ls : List (List Value)}
theorem RowsOf.shape (h : RowsOf t k w v ls) : ∃ A c, v = .slice A ls.length c := by
  rcases h.2 with ⟨rfl, rfl⟩ | ⟨b, o, c, rfl, _⟩
  · exact ⟨none, 0, rfl⟩
  · exact ⟨_, c, rfl⟩
theorem RowsOf.keep {ts : List TypeId} (h : RowsOf t k w v ls) (hk : KeepT ts w w') (ht : t ∈ ts) : RowsOf t k w' v ls := by
  refine ⟨h.1, ?_⟩
  rcases h.2 with h2 | ⟨b, o, c, h1, h2, h3, h4⟩
  · exact .inl h2
  · exact .inr ⟨b, o, c, h1, h2, h3.keepT hk ht, fun j l hl => rangeAt_keepT (h4 j l hl) hk h3 ht⟩
theorem RowsOf.ext (h : RowsOf t k w v ls) (hb : Ext w w') : RowsOf t k w' v ls := h.keep (ts := [t]) (KeepT.ext hb) (by simp)
theorem RowsOf.nil (t : TypeId) (k : Nat) (w : World) : RowsOf t k w (.slice none 0 0) [] := ⟨(fun l hl => by cases hl), .inl ⟨rfl, rfl⟩⟩
/-- An element, its address out of a variable. -/
theorem RowsOf.row {A : Option Addr} {n c : Nat} (h : RowsOf t k w (.slice A n c) ls) (j : Nat) (hj : j < ls.length) :
    ∃ b o, A = some ⟨b, o, none⟩ ∧ TypeAt w b t ∧ ∀ w', KeepT [t] w w' → w'.rangeAt b (o + j * k) ls[j] := by
  rcases h.2 with ⟨_, rfl⟩ | ⟨b, o, c', e, _, hb, hx⟩
  · simp at hj
  · injection e with e
    exact ⟨b, o, e, hb, fun w' hk => rangeAt_keepT (hx j _ (List.getElem?_eq_getElem hj)) hk hb (by simp)⟩
theorem RowsOf.len {A : Option Addr} {n c : Nat} (h : RowsOf t k w (.slice A n c) ls) : n = ls.length := by
  obtain ⟨A', c', e⟩ := h.shape
  injection e
theorem flatten_len {ls : List (List Value)} {k : Nat} (h : ∀ l ∈ ls, l.length = k) : ls.flatten.length = ls.length * k := by
  induction ls with
  | nil => simp
  | cons l r ih =>
    simp only [List.flatten_cons, List.length_append, List.length_cons, Nat.add_mul, Nat.one_mul]
    rw [h l (List.mem_cons_self ..), ih (fun x hx => h x (List.mem_cons_of_mem _ hx))]; omega
theorem flatten_get {ls : List (List Value)} {k : Nat} (h : ∀ l ∈ ls, l.length = k) : ∀ (j i : Nat) (l : List Value), ls[j]? = some l → i < k → ls.flatten[j * k + i]? = l[i]? := by
  induction ls with
  | nil => intro j i l hl; simp at hl
  | cons x r ih =>
    intro j i l hl hi
    have hx := h x (List.mem_cons_self ..)
    cases j with
    | zero =>
      simp at hl; subst hl
      rw [List.flatten_cons, Nat.zero_mul, Nat.zero_add, List.getElem?_append_left (by omega)]
    | succ j =>
      rw [List.flatten_cons, List.getElem?_append_right (by rw [hx, Nat.add_mul]; omega), hx, show (j + 1) * k + i - k = j * k + i from by rw [Nat.add_mul]; omega]
      exact ih (fun y hy => h y (List.mem_cons_of_mem _ hy)) j i l (by simpa using hl) hi
theorem flatten_at {ls : List (List Value)} {k : Nat} (h : ∀ l ∈ ls, l.length = k) {i : Nat} {u : Value} (hi : ls.flatten[i]? = some u) : ∃ l, ls[i / k]? = some l ∧ l[i % k]? = some u := by
  have hlt : i < ls.flatten.length := by
    rcases Nat.lt_or_ge i ls.flatten.length with h1 | h1
    · exact h1
    · rw [List.getElem?_eq_none h1] at hi; cases hi
  rw [flatten_len h] at hlt
  have hk : 0 < k := by
    rcases Nat.eq_zero_or_pos k with h0 | h0
    · rw [h0] at hlt; simp at hlt
    · exact h0
  have hq : i / k < ls.length := Nat.div_lt_of_lt_mul (by rw [Nat.mul_comm]; exact hlt)
  refine ⟨ls[i / k], List.getElem?_eq_getElem hq, ?_⟩
  rw [← flatten_get h (i / k) (i % k) _ (List.getElem?_eq_getElem hq) (Nat.mod_lt _ hk), Nat.div_add_mod' i k]
  exact hi
/-- The source of an append. -/
theorem RowsOf.src (h : RowsOf t k w v ls) (hb : KeepT [t] w w') : (v = .slice none 0 0 ∧ ls = []) ∨ ∃ ad c, v = .slice (some ad) ls.length c ∧ ls.flatten.length = ls.length * k ∧ (∀ j u, ls.flatten[j]? = some u → w'.cell? (ad.add j) = some u) ∧ ∀ u ∈ ls.flatten, u.oneCell' = true := by
  rcases h.2 with h2 | ⟨b, o, c, h1, h2, h3, h4⟩
  · exact .inl h2
  · refine .inr ⟨_, c, h1, flatten_len fun l hl => (h.1 l hl).1, fun j u hu => ?_, fun u hu => ?_⟩
    · obtain ⟨l, hl, hi⟩ := flatten_at (fun l hl => (h.1 l hl).1) hu
      rw [addr_add]
      have := rangeAt_keepT (h4 _ _ hl) hb h3 (by simp) _ _ hi
      rwa [Nat.add_assoc, Nat.div_add_mod'] at this
    · obtain ⟨l, hl, hi⟩ := List.mem_flatten.1 hu
      exact (h.1 l hl).2 u hi
/-- A row of the call's own. -/
theorem RowsOf.of_own {base : Nat} (hl : ∀ l ∈ ls, l.length = k ∧ ∀ u ∈ l, u.oneCell' = true) (h : w.ownsRow base t k v ls.length ls.flatten) : RowsOf t k w v ls := by
  refine ⟨hl, ?_⟩
  rcases h.2 with ⟨rfl, h0⟩ | ⟨g, cap, cur, rfl, hb, hh, hn, hc, hs, ht⟩
  · exact .inl ⟨rfl, List.eq_nil_of_length_eq_zero h0⟩
  · refine .inr ⟨g, 0, cap, rfl, hn, ⟨cur, (0, 0), hh⟩, fun j l hj i u hi => ?_⟩
    have hlen := fun l hl' => (hl l hl').1
    have hj2 : j < ls.length := by
      rcases Nat.lt_or_ge j ls.length with h1 | h1
      · exact h1
      · rw [List.getElem?_eq_none h1] at hj; cases hj
    have hlk : l.length = k := hlen l (List.mem_of_getElem? hj)
    have hi2 : i < k := by
      rcases Nat.lt_or_ge i l.length with h1 | h1
      · omega
      · rw [List.getElem?_eq_none h1] at hi; cases hi
    rw [cell_of_row w g _ cur t (0, 0) hh, Nat.zero_add]
    have e := flatten_get hlen j i l hj hi2
    rw [← ht, List.getElem?_take_of_lt (by have := Nat.mul_le_mul_right k (show j + 1 ≤ ls.length from hj2); rw [Nat.add_mul] at this; omega), hi] at e
    simpa using e
theorem RowsOf.take (h : RowsOf t k w v ls) (i : Nat) (hi : i ≤ ls.length) : ∀ A n c, v = .slice A n c → RowsOf t k w (.slice A i c) (ls.take i) := by
  intro A n c hv
  refine ⟨fun l hl => h.1 l (List.mem_of_mem_take hl), ?_⟩
  rcases h.2 with ⟨h1, h2⟩ | ⟨b, o, c', h1, h2, h3, h4⟩
  · rw [hv] at h1; injection h1 with h1 h5 h6; subst h1 h6; subst h2; simp at hi; subst hi
    exact .inl ⟨rfl, by simp⟩
  · rw [hv] at h1; injection h1 with h1 h5 h6; subst h1 h6
    refine .inr ⟨b, o, c, by simp [List.length_take, Nat.min_eq_left hi], by simp [List.length_take]; omega, h3, fun j l hl => h4 j l ?_⟩
    rw [List.getElem?_take] at hl
    split at hl
    · exact hl
    · cases hl
theorem RowsOf.drop {b o c : Nat} (h : RowsOf t k w (.slice (some ⟨b, o, none⟩) ls.length c) ls) (i : Nat) (hi : i ≤ ls.length) : RowsOf t k w (.slice (some ⟨b, o + i * k, none⟩) (ls.length - i) (c - i)) (ls.drop i) := by
  refine ⟨fun l hl => h.1 l (List.mem_of_mem_drop hl), ?_⟩
  rcases h.2 with ⟨h1, h2⟩ | ⟨b', o', c', h1, h2, h3, h4⟩
  · cases h1
  · injection h1 with h1 h5 h6; injection h1 with h1; injection h1 with h1 h7; subst h1 h6 h7
    refine .inr ⟨b, o + i * k, c - i, by simp, by simp; omega, h3, fun j l hl => ?_⟩
    rw [List.getElem?_drop] at hl
    have := h4 _ _ hl
    rwa [Nat.add_mul, ← Nat.add_assoc] at this
end

theorem RowsOf.one_new (t : TypeId) {k : Nat} (w : World) (l : List Value) (hl : l.length = k) (h1 : ∀ u ∈ l, u.oneCell' = true) {g : Nat} (hg : w.heap.size = g) : RowsOf t k (w.alloc (.cells l.toArray t)) (.slice (some ⟨g, 0, none⟩) 1 1) [l] := by
  refine ⟨fun x hx => by rw [List.mem_singleton.1 hx]; exact ⟨hl, h1⟩, .inr ⟨g, 0, 1, rfl, Nat.le_refl _, (Blk.newAt w t l.toArray hg).type, fun j x hx => ?_⟩⟩
  cases j with
  | zero => simp at hx; subst hx; rw [Nat.zero_mul]; exact (Blk.newAt w t l.toArray hg).range
  | succ j => simp at hx
theorem one_snoc {es : List Value} {S : Value} (h : ∀ u ∈ es, u.oneCell' = true) (hS : S.oneCell' = true) : ∀ u ∈ es ++ [S], u.oneCell' = true := by
  intro u hu
  rcases List.mem_append.1 hu with hu | hu
  · exact h u hu
  · rw [List.mem_singleton.1 hu]; exact hS
theorem own_ext {w w' : World} {base : Nat} {e : TypeId} {size : Nat} {v : Value} {n : Nat} {xs : List Value} (h : w.ownsRow base e size v n xs) (k : Ext w w') : w'.ownsRow base e size v n xs := by
  refine ⟨h.1, ?_⟩
  rcases h.2 with h2 | ⟨g, cap, cur, e1, e2, e3, e4⟩
  · exact .inl h2
  · exact .inr ⟨g, cap, cur, e1, e2, (k.block g (block_lt e3)).trans e3, e4⟩

theorem Blk.grown {w w' : World} {g : Nat} {t : TypeId} {cs : Array Value} {row : Option Nat} (h : Blk w g t cs) (hg : w.grownBy w' row) (hne : some g ≠ row) : Blk w' g t cs := (hg.block g h.lt hne).trans h
/-! Stores of many cells. -/
theorem Ext.setCells {a : World} : ∀ (l : List Value) {b : World} (_ : Ext a b) {g : Nat} (_ : a.heap.size ≤ g) (o : Nat), Ext a (b.setCells g o l)
  | [], _, h, _, _, _ => h
  | v :: r, _, h, g, hg, o => Ext.setCells r (h.setCell (p := ⟨g, o, none⟩) hg v) hg (o + 1)
theorem KeepT.setCells {ts : List TypeId} {a : World} {s : TypeId} (hs : s ∉ ts) : ∀ (l : List Value) {w : World} (_ : KeepT ts a w) {g : Nat} (_ : TypeAt w g s) (o : Nat), KeepT ts a (w.setCells g o l)
  | [], _, h, _, _, _ => h
  | v :: r, _, h, g, hg, o => KeepT.setCells hs r (h.set (p := ⟨g, o, none⟩) hg hs v) (hg.setCell _ _) (o + 1)
theorem Blk.farCells {g : Nat} {t : TypeId} {cs : Array Value} {k : Nat} (hk : g ≠ k) : ∀ (l : List Value) {w : World} (_ : Blk w g t cs) (o : Nat), Blk (w.setCells k o l) g t cs
  | [], _, h, _ => h
  | v :: r, _, h, o => Blk.farCells hk r (h.far (p := ⟨k, o, none⟩) hk v) (o + 1)
theorem Blk.setFrom {g : Nat} {t : TypeId} : ∀ (l a b : List Value) {w : World} (_ : Blk w g t (a ++ b).toArray), l.length = b.length → Blk (w.setCells g a.length l) g t (a ++ l).toArray
  | [], a, b, w, h, hl => by
    have : b = [] := List.eq_nil_of_length_eq_zero hl.symm
    subst this; exact h
  | v :: r, a, b, w, h, hl => by
    cases b with
    | nil => simp at hl
    | cons x b =>
      have h2 := h.set_ a.length v
      have e : (a ++ x :: b).toArray.setIfInBounds a.length v = ((a ++ [v]) ++ b).toArray := by simp
      rw [e] at h2
      have := Blk.setFrom r (a ++ [v]) b h2 (by simpa using hl)
      simpa [World.setCells] using this
theorem Blk.setAll {w : World} {g : Nat} {t : TypeId} {l m : List Value} (h : Blk w g t m.toArray) (hl : l.length = m.length) : Blk (w.setCells g 0 l) g t l.toArray := by
  have := Blk.setFrom l [] m (by simpa using h) hl
  simpa using this
theorem Blk.there {w : World} {g : Nat} {t : TypeId} {m : List Value} (h : Blk w g t m.toArray) {n : Nat} (hn : n = m.length) : w.there g 0 n := fun j hj => by
  rw [Nat.zero_add, h.cell j]
  refine ⟨?_, h.frozen j⟩
  rw [hn] at hj
  simp [hj]
theorem size_setCells {g : Nat} : ∀ (l : List Value) {w : World} (o : Nat), (w.setCells g o l).heap.size = w.heap.size
  | [], _, _ => rfl
  | v :: r, w, o => by
    have := size_setCells (g := g) r (w := w.setCell ⟨g, o, none⟩ v) (o + 1)
    simpa [World.setCells, World.setCell] using this

/-- The results of a call: a struct, and a value. -/
theorem results_struct2 {P : Program} {fn : Func} {p q : Tmp} {ty : TypeId} (h : fn.results = #[.cell p ty, .tmp q]) (tmps : Array Value) (w : World) (b o : Nat) (cs : List Value) (d : TypeDesc) (v : Value)
    (hp : tmps.getD p undef = .pointer (some ⟨b, o, none⟩)) (hq : tmps.getD q undef = v) (hc : w.rangeAt b o cs) (hu : P.underlying ty = some d) (hd : d.isRow = true) (hi : (P.info? ty).map (·.size) = some cs.length) :
    (results fn tmps).run P w = .ok (.tuple #[.agg cs.toArray, v]) w := by
  have hp' : tmps[p]?.getD undef = .pointer (some ⟨b, o, none⟩) := by simpa using hp
  have hq' : tmps[q]?.getD undef = v := by simpa using hq
  simp [results, h, hp', hq', asAddr, run_loadVar_mid w b o ty cs d hc hu hd hi]
theorem results_struct1 {P : Program} {fn : Func} {p : Tmp} {ty : TypeId} (h : fn.results = #[.cell p ty]) (tmps : Array Value) (w : World) (b o : Nat) (cs : List Value) (d : TypeDesc)
    (hp : tmps.getD p undef = .pointer (some ⟨b, o, none⟩)) (hc : w.rangeAt b o cs) (hu : P.underlying ty = some d) (hd : d.isRow = true) (hi : (P.info? ty).map (·.size) = some cs.length) :
    (results fn tmps).run P w = .ok (.agg cs.toArray) w := by
  have hp' : tmps[p]?.getD undef = .pointer (some ⟨b, o, none⟩) := by simpa using hp
  simp [results, h, hp', asAddr, run_loadVar_mid w b o ty cs d hc hu hd hi]

/-! Two lists, element by element. -/
def All2 {α β : Type} (R : α → β → Prop) : List α → List β → Prop
  | [], [] => True
  | a :: l, b :: m => R a b ∧ All2 R l m
  | _, _ => False
section
variable {α β : Type} {R : α → β → Prop}
theorem All2.length : ∀ {l : List α} {m : List β}, All2 R l m → l.length = m.length
  | [], [], _ => rfl
  | _ :: _, _ :: _, h => by simp [All2.length h.2]
theorem All2.mono {S : α → β → Prop} (hs : ∀ a b, R a b → S a b) : ∀ {l : List α} {m : List β}, All2 R l m → All2 S l m
  | [], [], _ => trivial
  | _ :: _, _ :: _, h => ⟨hs _ _ h.1, All2.mono hs h.2⟩
theorem All2.get : ∀ {l : List α} {m : List β}, All2 R l m → ∀ (j : Nat) (a : α) (b : β), l[j]? = some a → m[j]? = some b → R a b
  | [], [], _, j, a, b, ha, _ => by simp at ha
  | x :: l, y :: m, h, 0, a, b, ha, hb => by simp at ha hb; subst ha hb; exact h.1
  | x :: l, y :: m, h, j + 1, a, b, ha, hb => All2.get h.2 j a b (by simpa using ha) (by simpa using hb)
theorem All2.append : ∀ {l : List α} {m : List β} {l' : List α} {m' : List β}, All2 R l m → All2 R l' m' → All2 R (l ++ l') (m ++ m')
  | [], [], _, _, _, h' => h'
  | _ :: _, _ :: _, _, _, h, h' => ⟨h.1, All2.append h.2 h'⟩
theorem All2.take : ∀ {l : List α} {m : List β} (n : Nat), All2 R l m → All2 R (l.take n) (m.take n)
  | [], [], n, _ => by simp [All2]
  | _ :: _, _ :: _, 0, _ => trivial
  | _ :: _, _ :: _, n + 1, h => ⟨h.1, All2.take n h.2⟩
theorem All2.drop : ∀ {l : List α} {m : List β} (n : Nat), All2 R l m → All2 R (l.drop n) (m.drop n)
  | [], [], n, _ => by simp [All2]
  | _ :: _, _ :: _, 0, h => h
  | _ :: _, _ :: _, n + 1, h => All2.drop n h.2
theorem All2.one {a : α} {b : β} (h : R a b) : All2 R [a] [b] := ⟨h, trivial⟩
theorem All2.reverse : ∀ {l : List α} {m : List β}, All2 R l m → All2 R l.reverse m.reverse
  | [], [], _ => trivial
  | _ :: _, _ :: _, h => by simp only [List.reverse_cons]; exact (All2.reverse h.2).append (All2.one h.1)
theorem All2.mapL {γ : Type} (f : γ → α) (g : γ → β) : ∀ (l : List γ), (∀ x ∈ l, R (f x) (g x)) → All2 R (l.map f) (l.map g)
  | [], _ => trivial
  | x :: l, h => ⟨h x (List.mem_cons_self ..), All2.mapL f g l fun y hy => h y (List.mem_cons_of_mem _ hy)⟩
theorem All2.filter (p : α → Bool) (q : β → Bool) (hp : ∀ a b, R a b → p a = q b) : ∀ {l : List α} {m : List β}, All2 R l m → All2 R (l.filter p) (m.filter q)
  | [], [], _ => trivial
  | a :: l, b :: m, h => by
    simp only [List.filter_cons, hp a b h.1]
    split
    · exact ⟨h.1, All2.filter p q hp h.2⟩
    · exact All2.filter p q hp h.2
end

/-! Large structs by value: their loads, stores and makings stand still in the walk, and are met by equations in the context. -/
def bigLoad (t : TypeId) (v : Value) : Sem Value := Instr.loadAt t v
def bigStore (t : TypeId) (a v : Value) : Sem Unit := Instr.storeAt t a v
def bigBuild (t : TypeId) (ps : Array (Nat × Value)) : Sem Value := Instr.build t ps
def bigSlice (t : TypeId) (n : Nat) (ps : Array (Nat × Value)) : Sem Value := Instr.buildSlice t n ps
theorem load_entry (v : Value) : Instr.loadAt 77 v = bigLoad 77 v := rfl
theorem load_held (v : Value) : Instr.loadAt 82 v = bigLoad 82 v := rfl
theorem store_entry (a v : Value) : Instr.storeAt 77 a v = bigStore 77 a v := rfl
theorem store_held (a v : Value) : Instr.storeAt 82 a v = bigStore 82 a v := rfl
theorem build_entry (ps : Array (Nat × Value)) : Instr.build 77 ps = bigBuild 77 ps := rfl
theorem build_held (ps : Array (Nat × Value)) : Instr.build 82 ps = bigBuild 82 ps := rfl
theorem slice_held (n : Nat) (ps : Array (Nat × Value)) : Instr.buildSlice 28 n ps = bigSlice 28 n ps := rfl

theorem info_entry : (Tryz.prog.info? 77).map (·.size) = some 31 := by kernel_rfl
theorem run_load_entry (w : World) (b o : Nat) (l : List Value) (hl : l.length = 31) (hc : w.rangeAt b o l) : (bigLoad 77 (.pointer (some ⟨b, o, none⟩))).run Tryz.prog w = .ok (.agg l.toArray) w :=
  run_loadAt_mid w b o 77 l _ hc Tryz.underlying77 rfl (by rw [hl]; exact info_entry)
theorem run_store_entry (w : World) (b o : Nat) (l : List Value) (hl : l.length = 31) (hc : w.there b o 31) (h1 : ∀ u ∈ l, u.oneCell' = true) : (bigStore 77 (.pointer (some ⟨b, o, none⟩)) (.agg l.toArray)).run Tryz.prog w = .ok () (w.setCells b o l) :=
  run_storeAt_mid w b o 77 l.toArray (by simpa [hl] using hc) (by rw [List.size_toArray, hl]; exact info_entry) (all_oneCell_toArray h1)
theorem info_held : (Tryz.prog.info? 82).map (·.size) = some 32 := by kernel_rfl
theorem run_load_held (w : World) (b o : Nat) (l : List Value) (hl : l.length = 32) (hc : w.rangeAt b o l) : (bigLoad 82 (.pointer (some ⟨b, o, none⟩))).run Tryz.prog w = .ok (.agg l.toArray) w :=
  run_loadAt_mid w b o 82 l _ hc Tryz.underlying82 rfl (by rw [hl]; exact info_held)
theorem run_store_held (w : World) (b o : Nat) (l : List Value) (hl : l.length = 32) (hc : w.there b o 32) (h1 : ∀ u ∈ l, u.oneCell' = true) : (bigStore 82 (.pointer (some ⟨b, o, none⟩)) (.agg l.toArray)).run Tryz.prog w = .ok () (w.setCells b o l) :=
  run_storeAt_mid w b o 82 l.toArray (by simpa [hl] using hc) (by rw [List.size_toArray, hl]; exact info_held) (all_oneCell_toArray h1)

theorem rangeAt_ext {w w' : World} {b o : Nat} {l : List Value} (h : w.rangeAt b o l) (hb : b < w.heap.size) (k : Ext w w') : w'.rangeAt b o l := fun j v hv => (k.cell (p := ⟨b, o + j, none⟩) hb).trans (h j v hv)
theorem rangeAt_take {w : World} {b o : Nat} {l : List Value} (h : w.rangeAt b o l) (n : Nat) : w.rangeAt b o (l.take n) := fun j v hv => by
  rw [List.getElem?_take] at hv
  split at hv
  · exact h j v hv
  · cases hv

/-! Appends of whole elements. -/
theorem info_rows {P : Program} {e : TypeId} {k b : Nat} (h : (P.info? e).map (fun i => (i.zero.map (·.cells.size), i.size, i.bytes)) = some (some k, k, b)) :
    ∃ i z, P.info? e = some i ∧ i.zero = some z ∧ i.size = k ∧ i.bytes = b ∧ z.cells.size = k := by
  cases hi : P.info? e with
  | none => rw [hi] at h; cases h
  | some i =>
    rw [hi] at h
    simp only [Option.map_some, Option.some.injEq, Prod.mk.injEq] at h
    obtain ⟨h1, h2, h3⟩ := h
    obtain ⟨z, h4, h5⟩ := Option.map_eq_some_iff.1 h1
    exact ⟨i, z, rfl, h4, h2, h3, h5⟩

theorem wpList_append_rows {P : Program} {w : World} {ops : Array Oper} {rest : List Oper} {o : Oper} {a : Act} {Q : Exit → Act → World → Prop} (hgd : o.guard = none) (s x : Operand) (t : TypeId)
    (ho : o.op = .call { callee := .builtin .append, args := #[s, x], argTypes := #[t, t] })
    (base : Nat) (e : TypeId) (size bytes : Nat) (ht : P.underlying t = some (.slice e)) (hi : (P.info? e).map (fun i => (i.zero.map (·.cells.size), i.size, i.bytes)) = some (some size, size, bytes)) (hsz : 0 < size)
    (v : Value) (n : Nat) (xs : List Value) (hs : a.eval s = v) (hown : w.ownsRow base e size v n xs)
    (xv : Value) (news : List (List Value)) (hx : a.eval x = xv) (hn : RowsOf e size w xv news)
    (h63 : n + news.length ≤ maxLen) (hbytes : (n + news.length) * bytes ≤ 140737488355328) (hbase : base ≤ w.heap.size)
    (h : ∀ v' w', w'.ownsRow base e size v' (n + news.length) (xs ++ news.flatten) → w.grownBy w' v.ownBlock → wpList P ops Q rest (a.put o.dst v') w') : wpList P ops Q (o :: rest) a w := by
  obtain ⟨i, z, h1, h2, h3, h4, h5⟩ := info_rows hi
  rcases hn.src (KeepT.refl _ _) with ⟨rfl, rfl⟩ | ⟨ad, c, rfl, h6, h7, h8⟩
  · refine wpList_append_own_none hgd s x t ho base e i size ht h1 v n xs hs hown hx ?_
    exact h v w (by simpa using hown) (World.grownBy.refl _ _)
  · exact wpList_append_own w hgd s x t ho base e i z size bytes ht h1 h2 h3 h4 h5 hsz v n xs hs hown ad news.length c news.flatten hx h6 h7 h8 h63 hbytes hbase fun v' w' a b _ => h v' w' a b

theorem step_append_rows {P : Program} {w : World} {ops : Array Oper} {o : Oper} {a : Act} {K : Act → World → Prop} {Q : Exit → Act → World → Prop} {E : Prop} (hgd : o.guard = none) (s x : Operand) (t : TypeId)
    (ho : o.op = .call { callee := .builtin .append, args := #[s, x], argTypes := #[t, t] })
    (base : Nat) (e : TypeId) (size bytes : Nat) (ht : P.underlying t = some (.slice e)) (hi : (P.info? e).map (fun i => (i.zero.map (·.cells.size), i.size, i.bytes)) = some (some size, size, bytes)) (hsz : 0 < size)
    (v : Value) (n : Nat) (xs : List Value) (hs : a.eval s = v) (hown : w.ownsRow base e size v n xs)
    (xv : Value) (news : List (List Value)) (hx : a.eval x = xv) (hn : RowsOf e size w xv news)
    (h63 : n + news.length ≤ maxLen) (hbytes : (n + news.length) * bytes ≤ 140737488355328) (hbase : base ≤ w.heap.size)
    (h : ∀ v' w', w'.ownsRow base e size v' (n + news.length) (xs ++ news.flatten) → w.grownBy w' v.ownBlock → K (a.put o.dst v') w') :
    if Region.wanted o (yielded ops a.tmps) = true then Oper.wp P o a w K Q else E := by
  have hw : Region.wanted o (yielded ops a.tmps) = true := by simp [Region.wanted, hgd]
  rw [if_pos hw]
  obtain ⟨i, z, h1, h2, h3, h4, h5⟩ := info_rows hi
  rcases hn.src (KeepT.refl _ _) with ⟨rfl, rfl⟩ | ⟨ad, c, rfl, h6, h7, h8⟩
  · have hrun := run_append_owned_none (P := P) (w := w) base t o.type e i size ht h1 v n xs hown
    unfold Oper.wp
    simp [execOp, ho, resolve, invoke, builtin, hs, hx, hrun, Result.andThen]
    exact h v w (by simpa using hown) (World.grownBy.refl _ _)
  · exact wp_append_own w s x t ho base e i z size bytes ht h1 h2 h3 h4 h5 hsz v n xs hs hown ad news.length c news.flatten hx h6 h7 h8 h63 hbytes hbase fun v' w' a b _ => h v' w' a b
/-- A region that draws its order stands ahead of the operation that writes slot k. -/
theorem step_at (k : Nat) {P : Program} {ops : Array Oper} {op : Op} {ty : TypeId} {pos : String} {af : Array Edge} {gd : Option (Nat × Bool)} {a : Act} {w : World} {K : Act → World → Prop} {Q : Exit → Act → World → Prop} {tm : Array Value} {E : Prop}
    (h : if Region.wanted { dst := some k, op := op, type := ty, pos := pos, after := af, guard := gd } (yielded ops tm) = true then Oper.wp P { dst := some k, op := op, type := ty, pos := pos, after := af, guard := gd } a w K Q else E) :
    if Region.wanted { dst := some k, op := op, type := ty, pos := pos, after := af, guard := gd } (yielded ops tm) = true then Oper.wp P { dst := some k, op := op, type := ty, pos := pos, after := af, guard := gd } a w K Q else E := h
theorem own_base {w : World} {a b : Nat} {e : TypeId} {size : Nat} {v : Value} {n : Nat} {xs : List Value} (h : w.ownsRow b e size v n xs) (hab : a ≤ b) : w.ownsRow a e size v n xs := by
  refine ⟨h.1, ?_⟩
  rcases h.2 with h2 | ⟨g, cap, cur, e1, e2, e3⟩
  · exact .inl h2
  · exact .inr ⟨g, cap, cur, e1, Nat.le_trans hab e2, e3⟩
theorem own_slice_base {b g n c : Nat} (h : b ≤ g) : ∀ k, (Value.slice (some ⟨g, 0, none⟩) n c).ownBlock = some k → b ≤ k := fun k hk => by
  have e : g = k := Option.some.inj hk
  omega
theorem own_slice_ne {g k n c : Nat} (h : k ≠ g) : some k ≠ (Value.slice (some ⟨g, 0, none⟩) n c).ownBlock := fun e => h (Option.some.inj e)
theorem own_blk0 {w : World} {g base : Nat} {e : TypeId} {k : Nat} (h : Blk w g e #[]) (hb : base ≤ g) : w.ownsRow base e k (.slice (some ⟨g, 0, none⟩) 0 0) 0 [] :=
  ⟨by simp, .inr ⟨g, 0, #[], rfl, hb, h, Nat.le_refl _, Nat.zero_le _, by simp, by simp⟩⟩
theorem RowsOf.one_blk {t : TypeId} {k : Nat} {w : World} {g : Nat} {l : List Value} (h : Blk w g t l.toArray) (hl : l.length = k) (h1 : ∀ u ∈ l, u.oneCell' = true) : RowsOf t k w (.slice (some ⟨g, 0, none⟩) 1 1) [l] := by
  refine ⟨fun x hx => by rw [List.mem_singleton.1 hx]; exact ⟨hl, h1⟩, .inr ⟨g, 0, 1, rfl, Nat.le_refl _, h.type, fun j x hx => ?_⟩⟩
  cases j with
  | zero => simp at hx; subst hx; rw [Nat.zero_mul]; exact h.range
  | succ j => simp at hx

end Go.Proofs.YtekipapkcgoieaaGreatDoor

/- Entries on a shelf: what they read as in memory; slices of them. -/
namespace Go.Proofs.YtekipapkcgoieaaGreatDoor
open Go.RowKit

/-- An entry: its name, its values, its hypotheses. (Its certificate is not looked at.) -/
structure HeldD where
  name : List UInt8
  vals : List Int
  hyps : List Int

def IsIntL (w : World) (l : List Value) (z : Int) : Prop := ∃ b u, l = [b, u] ∧ IsInt w b u z
def IsInts (w : World) (v : Value) (xs : List Int) : Prop := ∃ ls, RowsOf 37 2 w v ls ∧ All2 (IsIntL w) ls xs
def IsNums (w : World) (v : Value) (xs : List Int) : Prop := RowsOf 3 1 w v (xs.map fun n => [Value.int .i64 n])
def IsStrs (w : World) (v : Value) (xs : List (List UInt8)) : Prop := RowsOf 9 1 w v (xs.map fun s => [Value.string ⟨s.toArray⟩])
/-- The 31 cells of an entry. -/
def IsEntry (w : World) (l : List Value) (h : HeldD) : Prop :=
  l.length = 31 ∧ (∀ u ∈ l, u.oneCell' = true) ∧ l[0]? = some (.string ⟨h.name.toArray⟩) ∧ (∃ V, l[1]? = some V ∧ IsInts w V h.vals) ∧ ∃ H, l[30]? = some H ∧ IsNums w H h.hyps
/-- The 32 cells of an entry with its sources. -/
def IsHeld (w : World) (l : List Value) (h : HeldD) : Prop := ∃ es S, l = es ++ [S] ∧ S.oneCell' = true ∧ IsEntry w es h
def IsShelf (w : World) (v : Value) (hs : List HeldD) : Prop := ∃ ls, RowsOf 82 32 w v ls ∧ All2 (IsHeld w) ls hs

theorem IsIntL.keep {w w' : World} {l : List Value} {z : Int} (h : IsIntL w l z) (k : KeepT [123] w w') : IsIntL w' l z := by
  obtain ⟨b, u, e, h⟩ := h; exact ⟨b, u, e, h.keep k⟩
theorem IsInts.keep {ts : List TypeId} {w w' : World} {v : Value} {xs : List Int} (h : IsInts w v xs) (k : KeepT ts w w') (hs : ∀ t ∈ [37, 123], t ∈ ts) : IsInts w' v xs := by
  obtain ⟨ls, h1, h2⟩ := h
  exact ⟨ls, h1.keep k (hs _ (by simp)), h2.mono fun _ _ h => h.keep (k.mono (by simpa using hs _ (by simp)))⟩
theorem IsNums.keep {ts : List TypeId} {w w' : World} {v : Value} {xs : List Int} (h : IsNums w v xs) (k : KeepT ts w w') (hs : 3 ∈ ts) : IsNums w' v xs := RowsOf.keep h k hs
theorem IsStrs.keep {ts : List TypeId} {w w' : World} {v : Value} {xs : List (List UInt8)} (h : IsStrs w v xs) (k : KeepT ts w w') (hs : 9 ∈ ts) : IsStrs w' v xs := RowsOf.keep h k hs
theorem IsEntry.keep {ts : List TypeId} {w w' : World} {l : List Value} {h : HeldD} (he : IsEntry w l h) (k : KeepT ts w w') (hs : ∀ t ∈ [37, 123, 3], t ∈ ts) : IsEntry w' l h := by
  obtain ⟨h1, h2, h3, ⟨V, h4, h5⟩, H, h6, h7⟩ := he
  exact ⟨h1, h2, h3, ⟨V, h4, h5.keep k fun t ht => hs t (by simp at ht ⊢; rcases ht with h | h <;> simp [h])⟩, H, h6, h7.keep k (hs _ (by simp))⟩
theorem IsHeld.keep {ts : List TypeId} {w w' : World} {l : List Value} {h : HeldD} (he : IsHeld w l h) (k : KeepT ts w w') (hs : ∀ t ∈ [37, 123, 3], t ∈ ts) : IsHeld w' l h := by
  obtain ⟨es, S, e, h1, h2⟩ := he
  exact ⟨es, S, e, h1, h2.keep k hs⟩
theorem IsShelf.keep {ts : List TypeId} {w w' : World} {v : Value} {hs : List HeldD} (he : IsShelf w v hs) (k : KeepT ts w w') (ht : ∀ t ∈ [82, 37, 123, 3], t ∈ ts) : IsShelf w' v hs := by
  obtain ⟨ls, h1, h2⟩ := he
  exact ⟨ls, h1.keep k (ht _ (by simp)), h2.mono fun _ _ h => h.keep k fun t h' => ht t (by simp at h' ⊢; rcases h' with h | h | h <;> simp [h])⟩
theorem IsInts.ext {w w' : World} {v : Value} {xs : List Int} (h : IsInts w v xs) (k : Ext w w') : IsInts w' v xs := h.keep (KeepT.ext (ts := [37, 123]) k) (fun _ h => h)
theorem IsNums.ext {w w' : World} {v : Value} {xs : List Int} (h : IsNums w v xs) (k : Ext w w') : IsNums w' v xs := RowsOf.ext h k
theorem IsStrs.ext {w w' : World} {v : Value} {xs : List (List UInt8)} (h : IsStrs w v xs) (k : Ext w w') : IsStrs w' v xs := RowsOf.ext h k
theorem IsEntry.ext {w w' : World} {l : List Value} {h : HeldD} (he : IsEntry w l h) (k : Ext w w') : IsEntry w' l h := he.keep (KeepT.ext (ts := [37, 123, 3]) k) (fun _ h => h)
theorem IsHeld.ext {w w' : World} {l : List Value} {h : HeldD} (he : IsHeld w l h) (k : Ext w w') : IsHeld w' l h := he.keep (KeepT.ext (ts := [37, 123, 3]) k) (fun _ h => h)
theorem IsShelf.ext {w w' : World} {v : Value} {hs : List HeldD} (he : IsShelf w v hs) (k : Ext w w') : IsShelf w' v hs := he.keep (KeepT.ext (ts := [82, 37, 123, 3]) k) (fun _ h => h)

theorem IsEntry.len {w : World} {l : List Value} {h : HeldD} (he : IsEntry w l h) : l.length = 31 := he.1
theorem IsHeld.len {w : World} {l : List Value} {h : HeldD} (he : IsHeld w l h) : l.length = 32 := by
  obtain ⟨es, S, rfl, _, h2⟩ := he; simp [h2.1]
theorem IsHeld.one {w : World} {l : List Value} {h : HeldD} (he : IsHeld w l h) : ∀ u ∈ l, u.oneCell' = true := by
  obtain ⟨es, S, rfl, h1, h2⟩ := he
  intro u hu
  rcases List.mem_append.1 hu with hu | hu
  · exact h2.2.1 u hu
  · rw [List.mem_singleton.1 hu]; exact h1
theorem IsHeld.entry {w : World} {l : List Value} {h : HeldD} (he : IsHeld w l h) : IsEntry w (l.take 31) h := by
  obtain ⟨es, S, rfl, _, h2⟩ := he
  rwa [List.take_append_of_le_length (by rw [h2.1]; omega), List.take_of_length_le (by rw [h2.1]; omega)]
theorem IsHeld.name {w : World} {l : List Value} {h : HeldD} (he : IsHeld w l h) : l[0]? = some (.string ⟨h.name.toArray⟩) := by
  have := he.entry.2.2.1
  simpa using this
theorem IsHeld.mk {w : World} {es : List Value} {S : Value} {h : HeldD} (he : IsEntry w es h) (hs : S.oneCell' = true) : IsHeld w (es ++ [S]) h := ⟨es, S, rfl, hs, he⟩

theorem IsHeld.hyps {w : World} {l : List Value} {h : HeldD} (he : IsHeld w l h) : ∃ A c, l[30]? = some (.slice A h.hyps.length c) ∧ IsNums w (.slice A h.hyps.length c) h.hyps := by
  obtain ⟨_, _, _, _, H, h6, h7⟩ := he.entry
  obtain ⟨A, c, e⟩ := RowsOf.shape h7
  simp only [List.length_map] at e
  subst e
  rw [List.getElem?_take] at h6
  exact ⟨A, c, by simpa using h6, h7⟩
theorem IsShelf.shape {w : World} {v : Value} {hs : List HeldD} (h : IsShelf w v hs) : ∃ A c, v = .slice A hs.length c := by
  obtain ⟨ls, h1, h2⟩ := h
  obtain ⟨A, c, e⟩ := h1.shape
  exact ⟨A, c, by rw [e, h2.length]⟩
/-- An entry of a shelf, its place out of a variable. -/
theorem IsShelf.at {w : World} {A : Option Addr} {n c : Nat} {hs : List HeldD} (h : IsShelf w (.slice A n c) hs) (j : Nat) (hj : j < hs.length) :
    ∃ b o l, A = some ⟨b, o, none⟩ ∧ IsHeld w l hs[j] ∧ TypeAt w b 82 ∧ ∀ w', KeepT [82] w w' → w'.rangeAt b (o + j * 32) l := by
  obtain ⟨ls, h1, h2⟩ := h
  have hj' : j < ls.length := by rw [h2.length]; exact hj
  obtain ⟨b, o, e, ht, hr⟩ := h1.row j hj'
  exact ⟨b, o, _, e, h2.get j _ _ (List.getElem?_eq_getElem hj') (List.getElem?_eq_getElem hj), ht, hr⟩
theorem IsShelf.len {w : World} {A : Option Addr} {n c : Nat} {hs : List HeldD} (h : IsShelf w (.slice A n c) hs) : n = hs.length := by
  obtain ⟨A', c', e⟩ := h.shape
  injection e

theorem RowsOf.cap {t : TypeId} {k : Nat} {w : World} {A : Option Addr} {n c : Nat} {ls : List (List Value)} (h : RowsOf t k w (.slice A n c) ls) : n ≤ c := by
  rcases h.2 with ⟨e, _⟩ | ⟨b, o, c', e, hc, _⟩
  · injection e with _ e1 e2; omega
  · injection e with _ e1 e2; omega
theorem IsShelf.cap {w : World} {A : Option Addr} {n c : Nat} {hs : List HeldD} (h : IsShelf w (.slice A n c) hs) : n ≤ c := by
  obtain ⟨ls, h1, _⟩ := h; exact h1.cap
/-- A number, a name of a slice of such. -/
theorem IsNums.shape {w : World} {v : Value} {xs : List Int} (h : IsNums w v xs) : ∃ A c, v = .slice A xs.length c := by
  obtain ⟨A, c, e⟩ := RowsOf.shape h
  exact ⟨A, c, by simpa using e⟩
theorem IsNums.at {w : World} {A : Option Addr} {n c : Nat} {xs : List Int} (h : IsNums w (.slice A n c) xs) (j : Nat) (hj : j < xs.length) :
    ∃ b o, A = some ⟨b, o, none⟩ ∧ TypeAt w b 3 ∧ ∀ w', KeepT [3] w w' → w'.cell? ⟨b, o + j, none⟩ = some (.int .i64 xs[j]) := by
  obtain ⟨b, o, e, ht, hr⟩ := RowsOf.row h j (by simpa using hj)
  exact ⟨b, o, e, ht, fun w' hk => by simpa using hr w' hk 0 (.int .i64 xs[j]) (by simp)⟩
theorem IsStrs.shape {w : World} {v : Value} {xs : List (List UInt8)} (h : IsStrs w v xs) : ∃ A c, v = .slice A xs.length c := by
  obtain ⟨A, c, e⟩ := RowsOf.shape h
  exact ⟨A, c, by simpa using e⟩
theorem IsStrs.at {w : World} {A : Option Addr} {n c : Nat} {xs : List (List UInt8)} (h : IsStrs w (.slice A n c) xs) (j : Nat) (hj : j < xs.length) :
    ∃ b o, A = some ⟨b, o, none⟩ ∧ TypeAt w b 9 ∧ ∀ w', KeepT [9] w w' → w'.cell? ⟨b, o + j, none⟩ = some (.string ⟨xs[j].toArray⟩) := by
  obtain ⟨b, o, e, ht, hr⟩ := RowsOf.row h j (by simpa using hj)
  exact ⟨b, o, e, ht, fun w' hk => by simpa using hr w' hk 0 (.string ⟨xs[j].toArray⟩) (by simp)⟩
/-! Slices of a slice. -/
def bigSub (t : TypeId) (x : Value) (lo hi mx : Option Value) : Sem Value := Instr.slice t x lo hi mx
theorem sub_held (x : Value) (lo hi mx : Option Value) : Instr.slice 28 x lo hi mx = bigSub 28 x lo hi mx := rfl
/-- Where a slice begins that is cut at its place i. -/
def cutAt (A : Option Addr) (c i k : Nat) : Option Addr := if c = i then A else A.map (·.add (i * k))
theorem RowsOf.from {t : TypeId} {k : Nat} {w : World} {A : Option Addr} {n c : Nat} {ls : List (List Value)} (h : RowsOf t k w (.slice A n c) ls) (i : Nat) (hi : i ≤ n) : RowsOf t k w (.slice (cutAt A c i k) (n - i) (c - i)) (ls.drop i) := by
  have hn := h.len
  subst hn
  have hc := h.cap
  rcases h.2 with ⟨e, rfl⟩ | ⟨b, o, c', e, _⟩
  · injection e with e1 e2 e3; subst e1 e3
    have : i = 0 := by simpa using hi
    subst this
    exact h
  · injection e with e1 e2 e3; subst e1 e3
    unfold cutAt
    by_cases hci : c = i
    · have hl : ls.length = i := by omega
      have := h.drop i hi
      have e0 : ls.drop i = [] := by rw [List.drop_of_length_le (by omega)]
      rw [if_pos hci, e0]
      rw [e0] at this
      rcases h.2 with ⟨e, _⟩ | ⟨b', o', c', e, h2, h3, h4⟩
      · cases e
      · injection e with e1 e2 e3; injection e1 with e1; injection e1 with e1 e4
        subst e1 e3 e4
        refine ⟨(fun l hl => by cases hl), .inr ⟨b, o, c - i, by simp [hl], by simp, h3, fun j l hl => by simp at hl⟩⟩
    · rw [if_neg hci]
      have := h.drop i hi
      simpa [addr_add] using this
theorem sub_strs (x : Value) (lo hi mx : Option Value) : Instr.slice 46 x lo hi mx = bigSub 46 x lo hi mx := rfl
theorem run_upto_held (w : World) (A : Option Addr) (n c i : Nat) (h : i ≤ c) : (bigSub 28 (.slice A n c) none (some (.int .i64 (i : Int))) none).run Tryz.prog w = .ok (.slice A i c) w := by
  have h1 : (i : Int) ≤ (c : Int) := by omega
  unfold bigSub Instr.slice
  simp [go_sem, Instr.sliceBounds, h1]
theorem run_from_held (w : World) (A : Option Addr) (n c i : Nat) (h : i ≤ n) (hn : n ≤ c) : (bigSub 28 (.slice A n c) (some (.int .i64 (i : Int))) none none).run Tryz.prog w = .ok (.slice (cutAt A c i 32) (n - i) (c - i)) w := by
  have h1 : (i : Int) ≤ (n : Int) := by omega
  have h2 : (n : Int) ≤ (c : Int) := by omega
  unfold bigSub Instr.slice cutAt
  simp [go_sem, Instr.sliceBounds, h1, h2]
theorem run_upto_strs (w : World) (A : Option Addr) (n c i : Nat) (h : i ≤ c) : (bigSub 46 (.slice A n c) none (some (.int .i64 (i : Int))) none).run Tryz.prog w = .ok (.slice A i c) w := by
  have h1 : (i : Int) ≤ (c : Int) := by omega
  unfold bigSub Instr.slice
  simp [go_sem, Instr.sliceBounds, h1]
theorem run_from_strs (w : World) (A : Option Addr) (n c i : Nat) (h : i ≤ n) (hn : n ≤ c) : (bigSub 46 (.slice A n c) (some (.int .i64 (i : Int))) none none).run Tryz.prog w = .ok (.slice (cutAt A c i 1) (n - i) (c - i)) w := by
  have h1 : (i : Int) ≤ (n : Int) := by omega
  have h2 : (n : Int) ≤ (c : Int) := by omega
  unfold bigSub Instr.slice cutAt
  simp [go_sem, Instr.sliceBounds, h1, h2]

/-! The making of entries and of slices of one. -/
theorem held_info : (Tryz.prog.info? 82).map (fun i => (i.zero.map (·.cells.size), i.size, i.bytes)) = some (some 32, 32, 616) := by kernel_rfl
theorem run_none_held (w : World) : (bigSlice 28 0 #[]).run Tryz.prog w = .ok (.slice (some ⟨w.heap.size, 0, none⟩) 0 0) (w.alloc (.cells #[] 82)) := by
  unfold bigSlice Instr.buildSlice
  simp [go_sem]
theorem fold_set (off : Nat) : ∀ (l : List Value) (k : Nat) (z : Array Value), off + k + l.length ≤ z.size →
    (l.zipIdx k).foldl (fun cs x => cs.setIfInBounds (off + x.2) x.1) z = (z.toList.take (off + k) ++ l ++ z.toList.drop (off + k + l.length)).toArray
  | [], k, z, _ => by simp
  | x :: l, k, z, h => by
    have hk : off + k < z.size := by simp at h; omega
    rw [List.zipIdx_cons, List.foldl_cons, fold_set off l (k + 1) _ (by simp at h ⊢; omega)]
    congr 1
    rw [Array.toList_setIfInBounds, ← Nat.add_assoc, List.take_succ_eq_append_getElem (by simpa using hk), List.drop_set_of_lt (by omega), List.take_set_of_le (Nat.le_refl _)]
    simp
    congr 1; omega
theorem fold_all (l : List Value) (z : Array Value) (h : l.length = z.size) : l.zipIdx.foldl (fun cs x => cs.setIfInBounds x.2 x.1) z = l.toArray := by
  have := fold_set 0 l 0 z (by omega)
  simp only [Nat.zero_add] at this
  rw [this]; simp [h]
theorem fold_head (l : List Value) (z : Array Value) (h : l.length ≤ z.size) : l.zipIdx.foldl (fun cs x => cs.setIfInBounds x.2 x.1) z = (l ++ z.toList.drop l.length).toArray := by
  have := fold_set 0 l 0 z (by omega)
  simp only [Nat.zero_add] at this
  rw [this]; simp
theorem run_build_held (w : World) (es : List Value) (A : Option Addr) (n c : Nat) (h : es.length = 31) : (bigBuild 82 #[(0, .agg es.toArray), (1, .slice A n c)]).run Tryz.prog w = .ok (.agg (es ++ [Value.slice A n c]).toArray) w := by
  unfold bigBuild Instr.build
  simp [go_sem, h]
  rw [fold_head _ _ (by simp [h])]
  simp [h]
theorem run_one_held (w : World) (l : List Value) (h : l.length = 32) : (bigSlice 28 1 #[(0, .agg l.toArray)]).run Tryz.prog w = .ok (.slice (some ⟨w.heap.size, 0, none⟩) 1 1) (w.alloc (.cells l.toArray 82)) := by
  unfold bigSlice Instr.buildSlice
  simp [go_sem, h]
  rw [fold_all _ _ (by simp [h])]

/-- The cells of no entry. -/
def entry0 : List Value := [.string ⟨#[]⟩, .slice none 0 0, .slice none 0 0, .bool false, .slice none 0 0, .slice none 0 0, .slice none 0 0, .int .i64 0, .bool false, .slice none 0 0, .slice none 0 0, .slice none 0 0, .int .i64 0, .int .i64 0, .int .i64 0, .int .i64 0, .slice none 0 0, .slice none 0 0, .slice none 0 0, .slice none 0 0, .bool false, .slice none 0 0, .bool false, .slice none 0 0, .slice none 0 0, .slice none 0 0, .slice none 0 0, .slice none 0 0, .slice none 0 0, .slice none 0 0, .slice none 0 0]
theorem run_no_entry (w : World) : (bigBuild 77 #[]).run Tryz.prog w = .ok (.agg entry0.toArray) w := by
  unfold bigBuild Instr.build entry0
  simp [go_sem]
theorem entry0_len : entry0.length = 31 := rfl
theorem entry0_one : ∀ u ∈ entry0, u.oneCell' = true := List.all_eq_true.1 rfl

end Go.Proofs.YtekipapkcgoieaaGreatDoor

/- The reference's shelves: an entry of a new name is laid in. -/
namespace Go.Proofs.YtekipapkcgoieaaGreatDoor
open Go.RowKit
attribute [local go_sem ↓] Go.wp_at_zero Go.wp_at_succ load_entry load_held store_entry store_held build_held slice_held sub_held

/-- How two different names compare. -/
def scmp (a b : List UInt8) : Int := if a < b then -1 else 1

set_option maxHeartbeats 400000 in
theorem Cmp36_ne (cs ds : List Value) (a b : List UInt8) (w : World) (hne : a ≠ b) (hc : cs[0]? = some (.string ⟨a.toArray⟩)) (hd : ds[0]? = some (.string ⟨b.toArray⟩)) :
    Calls Tryz.prog 105 #[.agg cs.toArray, .agg ds.toArray] w fun e w' => e = .returned (.int .i64 (scmp a b)) ∧ Ext w w' := by
  by_cases h : a < b
  · have h1 : Op.bytesLess a b = true := by rw [bytesLess_eq]; simpa using h
    have hs : scmp a b = -1 := by simp [scmp, h]
    rw [hs]
    clear hs h hne
    go_enter Tryz.func105, Tryz.ntmps105
    go_wp2
    go_ret
    exact ⟨rfl, (((Ext.refl _).alloc _).alloc _)⟩
  · have h1 : Op.bytesLess a b = false := by rw [bytesLess_eq]; simpa using h
    have h2 : (a == b) = false := by simpa using hne
    have hs : scmp a b = 1 := by simp [scmp, h]
    rw [hs]
    clear hs h hne
    go_enter Tryz.func105, Tryz.ntmps105
    go_wp2
    go_ret
    exact ⟨rfl, (((Ext.refl _).alloc _).alloc _)⟩

set_option maxRecDepth 100000 in
set_option maxHeartbeats 4000000 in
theorem Add36_any (sv : Value) (es : List Value) (la wh da : Int) (hs : List HeldD) (e : HeldD) (w : World) (hlen : hs.length ≤ 100000) (hne : ∀ h ∈ hs, h.name ≠ e.name)
    (h1 : IsShelf w sv hs) (he : IsEntry w es e) :
    Calls Tryz.prog 71 #[.agg #[sv], .agg es.toArray, .agg #[.int .i64 la, .int .i64 wh, .int .i64 da]] w fun e' w' => ∃ (v : Value) (k : Nat), e' = .returned (.agg #[v]) ∧ k ≤ hs.length ∧ IsShelf w' v (hs.take k ++ e :: hs.drop k) ∧ Ext w w' := by
  obtain ⟨A, c, rfl⟩ := h1.shape
  obtain ⟨N, hN⟩ : ∃ N, N = hs.length := ⟨_, rfl⟩
  rw [← hN] at h1 hlen ⊢
  have hNc := h1.cap
  have H1 := Lib.hid h1
  obtain ⟨ls, hR, hA2⟩ := h1
  have HR := Lib.hid hR
  have HA := Lib.hid hA2
  have HE := Lib.hid he
  have HN := Lib.hid hne
  have HS : Hid (ls.length = hs.length) := hA2.length
  have hel := he.len
  have heo := Lib.hid he.2.1
  have hn0 := he.2.2.1
  clear hR hA2 he hne
  have HL := Lib.hid hN
  clear hN
  go_enter Tryz.func71, Tryz.ntmps71
  go_wp2_with fail
  obtain ⟨W, hW⟩ : ∃ W : World, W = (((w.alloc (.cells #[.slice A N c] 30)).alloc (.cells es.toArray 77)).alloc (.cells #[.int .i64 la, .int .i64 wh, .int .i64 da] 79)).alloc (.cells #[.slice none 0 0] 30) := ⟨_, rfl⟩
  rw [← hW]
  have hE : Ext w W := by rw [hW]; exact ((((Ext.refl w).alloc _).alloc _).alloc _).alloc _
  have hB1 : Blk W w.heap.size 30 #[.slice A N c] := by rw [hW]; exact (((Blk.newAt _ _ _ (by simp)).alloc _).alloc _).alloc _
  have hB2 : Blk W (w.heap.size + 1) 77 es.toArray := by rw [hW]; exact ((Blk.newAt _ _ _ (by simp)).alloc _).alloc _
  have hB3 : Blk W (w.heap.size + 1 + 1) 79 #[.int .i64 la, .int .i64 wh, .int .i64 da] := by rw [hW]; exact (Blk.newAt _ _ _ (by simp)).alloc _
  have hB4 : Blk W (w.heap.size + 1 + 1 + 1) 30 #[.slice none 0 0] := by rw [hW]; exact Blk.newAt _ _ _ (by simp)
  clear hW
  have HK : Hid (∀ w', Ext W w' → Ext W w' ∧ w'.cell? ⟨w.heap.size, 0, none⟩ = some (.slice A N c)) := fun w' h => ⟨h, (hB1.ext h).cell 0⟩
  have HL2 : Hid (∀ w', Ext W w' → (bigLoad 77 (.pointer (some ⟨w.heap.size + 1, 0, none⟩))).run Tryz.prog w' = .ok (.agg es.toArray) w') := fun w' h => run_load_entry w' _ _ es hel (hB2.ext h).range
  have HQ : Hid (∀ w', Ext W w' → w'.cell? ⟨w.heap.size, 0, none⟩ = some (.slice A N c) ∧ w'.cell? ⟨w.heap.size + 1 + 1, 0, none⟩ = some (.int .i64 la) ∧ w'.cell? ⟨w.heap.size + 1 + 1, 1, none⟩ = some (.int .i64 wh) ∧ w'.cell? ⟨w.heap.size + 1 + 1, 2, none⟩ = some (.int .i64 da) ∧
      w'.cell? ⟨w.heap.size + 1 + 1 + 1, 0, none⟩ = some (.slice none 0 0) ∧ w'.frozen? ⟨w.heap.size + 1 + 1 + 1, 0, none⟩ = false ∧ w.heap.size < w'.heap.size ∧ w.heap.size + 1 < w'.heap.size ∧ w.heap.size + 1 + 1 < w'.heap.size ∧ w.heap.size + 1 + 1 + 1 < w'.heap.size) := fun w' h =>
    ⟨(hB1.ext h).cell 0, (hB3.ext h).cell 0, (hB3.ext h).cell 1, (hB3.ext h).cell 2, (hB4.ext h).cell 0, (hB4.ext h).frozen 0, (hB1.ext h).lt, (hB2.ext h).lt, (hB3.ext h).lt, (hB4.ext h).lt⟩
  have hWs := hE.size'
  go_wp2_with fail
  go_loopw [7] (fun t wr => ∃ k : Nat, k ≤ N ∧ t = .int .i64 (k : Int) ∧ Ext W wr) (fun t _ => N - (intOf t).toNat)
  case atStart => exact ⟨0, Nat.zero_le _, rfl, Ext.refl _⟩
  case round =>
    obtain ⟨k, hk, rfl, hEr⟩ := hrel
    have rn := run_none_held
    have ru := fun w' => run_upto_held w' A N c k (by omega)
    have rf := fun w' => run_from_held w' A N c k hk hNc
    have rb := fun w' A n c => run_build_held w' es A n c hel
    have ro := fun w' S => run_one_held w' (es ++ [S]) (by simp [hel])
    by_cases hlt : k < N
    · obtain ⟨b, o, l, rfl, hl, ht, hr⟩ := H1.out.at k (by rw [← HL.out]; exact hlt)
      have hc0 := (HK.out wr hEr).2
      have hld1 : ∀ w', Ext W w' → (bigLoad 77 (.pointer (some ⟨b, o + k * 32, none⟩))).run Tryz.prog w' = .ok (.agg (l.take 31).toArray) w' := fun w' h => run_load_entry w' _ _ (l.take 31) (by simp [hl.len]) (rangeAt_take (hr w' (KeepT.ext (hE.trans h))) 31)
      have hld2 := HL2.out
      have hln : (l.take 31)[0]? = some (.string ⟨(hs[k]'(by rw [← HL.out]; exact hlt)).name.toArray⟩) := hl.entry.2.2.1
      have hnn : (hs[k]'(by rw [← HL.out]; exact hlt)).name ≠ e.name := HN.out _ (List.getElem_mem _)
      have hC := fun w' => Cmp36_ne (l.take 31) es _ _ w' hnn hln hn0
      generalize (hs[k]'(by rw [← HL.out]; exact hlt)).name = nm at *
      have hle : scmp nm e.name = -1 ∨ scmp nm e.name = 1 := by unfold scmp; split <;> simp
      clear hr hl hln hnn
      generalize l.take 31 = lt at *
      by_cases hlo : scmp nm e.name = -1
      · simp only [hlo] at hC
        have HC := Lib.hid hC
        clear hC hlo hle rn ru rf rb ro
        go_wp2_with fail
        go_region_held3 (fun w' => Ext W w' ∧ w'.cell? ⟨w.heap.size, 0, none⟩ = some (.slice (some ⟨b, o, none⟩) N c))
          (first | (refine HK.out _ ?_; (repeat (first | with_reducible assumption | with_reducible exact Ext.refl _ | with_reducible refine Ext.drew ?_ | with_reducible refine Ext.drewN ?_ _ | with_reducible refine Ext.alloc ?_ _ | with_reducible refine Ext.set2 ?_ (by omega) _ _ | with_reducible refine Ext.setCell ?_ (by first | omega | (simp; done) | (simp; omega)) _ | with_reducible refine Ext.trans ?_ (by with_reducible assumption))); done))
          (first | (go_at_call 105; (with_reducible refine (HC.out _).mono ?_); rintro e w2 ⟨rfl, he2⟩))
        go_wp2
        go_roundw
        case rel => exact ⟨k + 1, by omega, by go_num, hEr.trans (by (repeat (first | with_reducible assumption | with_reducible exact Ext.refl _ | with_reducible refine Ext.drew ?_ | with_reducible refine Ext.drewN ?_ _ | with_reducible refine Ext.alloc ?_ _ | with_reducible refine Ext.set2 ?_ (by omega) _ _ | with_reducible refine Ext.setCell ?_ (by first | omega | (simp; done) | (simp; omega)) _ | with_reducible refine Ext.trans ?_ (by with_reducible assumption))))⟩
        case measure => (simp [intOf] <;> omega)
      · have hlo1 : scmp nm e.name = 1 := by omega
        simp only [hlo1] at hC
        have HC := Lib.hid hC
        clear hC hlo hle hlo1
        go_wp2_with fail
        go_region_held3 (fun w' => Ext W w' ∧ w'.cell? ⟨w.heap.size, 0, none⟩ = some (.slice (some ⟨b, o, none⟩) N c))
          (first | (refine HK.out _ ?_; (repeat (first | with_reducible assumption | with_reducible exact Ext.refl _ | with_reducible refine Ext.drew ?_ | with_reducible refine Ext.drewN ?_ _ | with_reducible refine Ext.alloc ?_ _ | with_reducible refine Ext.set2 ?_ (by omega) _ _ | with_reducible refine Ext.setCell ?_ (by first | omega | (simp; done) | (simp; omega)) _ | with_reducible refine Ext.trans ?_ (by with_reducible assumption))); done))
          (first | (go_at_call 105; (with_reducible refine (HC.out _).mono ?_); rintro e w2 ⟨rfl, he2⟩))
        have hE2 : Ext W w2 := by (repeat (first | with_reducible assumption | with_reducible exact Ext.refl _ | with_reducible refine Ext.drew ?_ | with_reducible refine Ext.drewN ?_ _ | with_reducible refine Ext.alloc ?_ _ | with_reducible refine Ext.set2 ?_ (by omega) _ _ | with_reducible refine Ext.setCell ?_ (by first | omega | (simp; done) | (simp; omega)) _ | with_reducible refine Ext.trans ?_ (by with_reducible assumption)))
        obtain ⟨q0, q1, q2, q3, q4, q5, q6, q7, q8, q9⟩ := HQ.out w2 hE2
        go_wp2_with (at_builtin; refine Hid.out ?_)
        clear q0 q1 q2 q3 q4 q5 q6 q7 q8 q9
        refine wpList_append_rows rfl (.tmp 27) (.tmp 31) _ rfl W.heap.size 82 32 616 Tryz.underlying28 held_info (by decide) _ _ _ rfl (World.ownsRow_made w2 #[] 0 hE2.size' (Nat.zero_le _) (by simp)) _ (ls.take k) rfl ((HR.out.take k (by rw [HS.out, ← HL.out]; exact hk) _ _ _ rfl).ext (hE.trans (hE2.alloc _))) (by simp; unfold maxLen; omega) (by simp; omega) (by have := hE2.size'; simp; omega) ?_
        intro v3 w3 hown3 hgr3
        have hE3 : Ext W w3 := (hE2.alloc _).grown hgr3 (own_block (World.ownsRow_made w2 #[] 0 hE2.size' (Nat.zero_le _) (by simp) : World.ownsRow _ W.heap.size 82 32 _ _ _))
        clear hgr3
        go_upto_region 5 with fail
        have hc3 := (HK.out w3 hE3).2
        go_region_held3 (fun w' => Ext W w' ∧ w'.cell? ⟨w.heap.size, 0, none⟩ = some (.slice (some ⟨b, o, none⟩) N c))
          (first | (refine HK.out _ ?_; (repeat (first | with_reducible assumption | with_reducible exact Ext.refl _ | with_reducible refine Ext.drew ?_ | with_reducible refine Ext.drewN ?_ _ | with_reducible refine Ext.alloc ?_ _ | with_reducible refine Ext.set2 ?_ (by omega) _ _ | with_reducible refine Ext.setCell ?_ (by first | omega | (simp; done) | (simp; omega)) _ | with_reducible refine Ext.trans ?_ (by with_reducible assumption))); done))
          (first | (go_at_call 105; (with_reducible refine (HC.out _).mono ?_); rintro e w4 ⟨rfl, he4⟩))
        have hE34 : Ext w3 w4 := ((Ext.refl w3).drew).trans he4
        have hE4 : Ext W w4 := hE3.trans hE34
        obtain ⟨q0, q1, q2, q3, q4, q5, q6, q7, q8, q9⟩ := HQ.out w4 hE4
        have hld2 := HL2.out
        go_wp2_with (at_builtin; refine Hid.out ?_)
        clear q0 q1 q2 q3 q4 q5 q6 q7 q8 q9 hld2
        refine wpList_append_rows rfl (.tmp 70) (.tmp 75) _ rfl W.heap.size 82 32 616 Tryz.underlying28 held_info (by decide) v3 _ _ rfl (own_ext hown3 ((hE34.alloc _).alloc _)) _ [es ++ [Value.slice (some ⟨w4.heap.size, 0, none⟩) 1 1]] rfl (RowsOf.one_new _ _ _ (by simp [hel]) (one_snoc heo.out rfl) (by simp)) (by simp; unfold maxLen; omega) (by simp; omega) (by have := hE4.size'; simp; omega) ?_
        intro v5 w5 hown5 hgr5
        have hE5 : Ext W w5 := (((hE4.alloc _).alloc _)).grown hgr5 (own_block hown3)
        have hE45 : KeepT [37, 123, 3] w w5 := KeepT.ext (hE.trans hE5)
        clear hgr5 hown3
        obtain ⟨q0, q1, q2, q3, q4, q5, q6, q7, q8, q9⟩ := HQ.out w5 hE5
        go_wp2_with (at_builtin; refine Hid.out ?_)
        clear q0 q1 q2 q3 q4 q5 q6 q7 q8 q9
        refine wpList_append_rows rfl (.tmp 77) (.tmp 81) _ rfl W.heap.size 82 32 616 Tryz.underlying28 held_info (by decide) v5 _ _ rfl hown5 _ (ls.drop k) rfl ((HR.out.from k hk).ext (hE.trans hE5)) (by have := HS.out; have := HL.out; simp; unfold maxLen; omega) (by have := HS.out; have := HL.out; simp; omega) hE5.size' ?_
        intro v7 w7 hown7 hgr7
        have hE7 : Ext W w7 := hE5.grown hgr7 (own_block hown5)
        clear hgr7 hown5
        have hlen7 : 0 + (ls.take k).length + [es ++ [Value.slice (some ⟨w4.heap.size, 0, none⟩) 1 1]].length + (ls.drop k).length = N + 1 := by have := HS.out; have := HL.out; simp; omega
        rw [hlen7] at hown7
        clear hlen7
        obtain ⟨g7, c7, rfl⟩ := own_succ hown7
        obtain ⟨q0, q1, q2, q3, q4, q5, q6, q7, q8, q9⟩ := HQ.out w7 hE7
        go_wp2
        refine bodyPost_ret (v := .agg #[.slice (some ⟨g7, 0, none⟩) (N + 1) c7]) (by simp [results, Tryz.results71, go_sem, q4, q9]) rfl ?_
        refine ⟨_, k, rfl, hk, ?_, (hE.trans hE7).setCell (by show w.heap.size ≤ w.heap.size + 1 + 1 + 1; omega) _⟩
        have hkt : KeepT [82, 37, 123, 3] w7 (w7.setCell ⟨w.heap.size + 1 + 1 + 1, 0, none⟩ (.slice (some ⟨g7, 0, none⟩) (N + 1) c7)) := (KeepT.refl _ _).set (hB4.ext hE7).type (by decide) _
        refine IsShelf.keep (ts := [82, 37, 123, 3]) ?_ hkt (fun _ h => h)
        refine ⟨ls.take k ++ (es ++ [Value.slice (some ⟨w4.heap.size, 0, none⟩) 1 1]) :: ls.drop k, ?_, ?_⟩
        · refine RowsOf.of_own (base := W.heap.size) ?_ ?_
          · intro l hl
            rcases List.mem_append.1 hl with h | h
            · exact HR.out.1 l (List.mem_of_mem_take h)
            · rcases List.mem_cons.1 h with h | h
              · subst h
                exact ⟨by simp [hel], one_snoc heo.out rfl⟩
              · exact HR.out.1 l (List.mem_of_mem_drop h)
          · have hll : (ls.take k ++ (es ++ [Value.slice (some ⟨w4.heap.size, 0, none⟩) 1 1]) :: ls.drop k).length = N + 1 := by have := HS.out; have := HL.out; simp; omega
            rw [hll]
            simpa using hown7
        · refine (((HA.out.mono fun _ _ h => h.ext (hE.trans hE7)).take k).append (All2.append (All2.one ?_) ((HA.out.mono fun _ _ h => h.ext (hE.trans hE7)).drop k)))
          exact IsHeld.mk (HE.out.ext (hE.trans hE7)) rfl
    · obtain rfl : k = N := by omega
      have hfr := HR.out.from k hk
      rw [Nat.sub_self] at hfr
      have hfr := Lib.hid hfr
      have hd : decide ((k : Int) < (k : Int)) = false := by simp
      have hc0 := (HK.out wr hEr).2
      go_wp2_with fail
      go_quiet (fail)
      obtain ⟨w2, hw2⟩ : ∃ w2 : World, w2 = wr.drewN nq := ⟨_, rfl⟩
      rw [← hw2]
      have hE2 : Ext W w2 := by rw [hw2]; exact hEr.drewN nq
      clear hw2 hc0
      obtain ⟨q0, q1, q2, q3, q4, q5, q6, q7, q8, q9⟩ := HQ.out w2 hE2
      go_wp2_with (at_builtin; refine Hid.out ?_)
      clear q0 q1 q2 q3 q4 q5 q6 q7 q8 q9
      refine wpList_append_rows rfl (.tmp 27) (.tmp 31) _ rfl W.heap.size 82 32 616 Tryz.underlying28 held_info (by decide) _ _ _ rfl (World.ownsRow_made w2 #[] 0 hE2.size' (Nat.zero_le _) (by simp)) _ (ls.take k) rfl ((HR.out.take k (by rw [HS.out, ← HL.out]; exact hk) _ _ _ rfl).ext (hE.trans (hE2.alloc _))) (by simp; unfold maxLen; omega) (by simp; omega) (by have := hE2.size'; simp; omega) ?_
      intro v3 w3 hown3 hgr3
      have hE3 : Ext W w3 := (hE2.alloc _).grown hgr3 (own_block (World.ownsRow_made w2 #[] 0 hE2.size' (Nat.zero_le _) (by simp) : World.ownsRow _ W.heap.size 82 32 _ _ _))
      clear hgr3
      go_upto_region 5 with fail
      have hc3 := (HK.out w3 hE3).2
      clear nq
      go_quiet (fail)
      obtain ⟨w4, hw4⟩ : ∃ w4 : World, w4 = w3.drewN nq := ⟨_, rfl⟩
      rw [← hw4]
      clear hc3
      have hE34 : Ext w3 w4 := by rw [hw4]; exact (Ext.refl w3).drewN nq
      clear hw4
      have hE4 : Ext W w4 := hE3.trans hE34
      obtain ⟨q0, q1, q2, q3, q4, q5, q6, q7, q8, q9⟩ := HQ.out w4 hE4
      have hld2 := HL2.out
      go_wp2_with (at_builtin; refine Hid.out ?_)
      clear q0 q1 q2 q3 q4 q5 q6 q7 q8 q9 hld2
      refine wpList_append_rows rfl (.tmp 70) (.tmp 75) _ rfl W.heap.size 82 32 616 Tryz.underlying28 held_info (by decide) v3 _ _ rfl (own_ext hown3 ((hE34.alloc _).alloc _)) _ [es ++ [Value.slice (some ⟨w4.heap.size, 0, none⟩) 1 1]] rfl (RowsOf.one_new _ _ _ (by simp [hel]) (one_snoc heo.out rfl) (by simp)) (by simp; unfold maxLen; omega) (by simp; omega) (by have := hE4.size'; simp; omega) ?_
      intro v5 w5 hown5 hgr5
      have hE5 : Ext W w5 := (((hE4.alloc _).alloc _)).grown hgr5 (own_block hown3)
      have hE45 : KeepT [37, 123, 3] w w5 := KeepT.ext (hE.trans hE5)
      clear hgr5 hown3
      obtain ⟨q0, q1, q2, q3, q4, q5, q6, q7, q8, q9⟩ := HQ.out w5 hE5
      go_wp2_with (at_builtin; refine Hid.out ?_)
      clear q0 q1 q2 q3 q4 q5 q6 q7 q8 q9
      refine wpList_append_rows rfl (.tmp 77) (.tmp 81) _ rfl W.heap.size 82 32 616 Tryz.underlying28 held_info (by decide) v5 _ _ rfl hown5 _ (ls.drop k) rfl (hfr.out.ext (hE.trans hE5)) (by have := HS.out; have := HL.out; simp; unfold maxLen; omega) (by have := HS.out; have := HL.out; simp; omega) hE5.size' ?_
      intro v7 w7 hown7 hgr7
      have hE7 : Ext W w7 := hE5.grown hgr7 (own_block hown5)
      clear hgr7 hown5
      have hlen7 : 0 + (ls.take k).length + [es ++ [Value.slice (some ⟨w4.heap.size, 0, none⟩) 1 1]].length + (ls.drop k).length = k + 1 := by have := HS.out; have := HL.out; simp; omega
      rw [hlen7] at hown7
      clear hlen7
      obtain ⟨g7, c7, rfl⟩ := own_succ hown7
      obtain ⟨q0, q1, q2, q3, q4, q5, q6, q7, q8, q9⟩ := HQ.out w7 hE7
      go_wp2
      refine bodyPost_ret (v := .agg #[.slice (some ⟨g7, 0, none⟩) (k + 1) c7]) (by simp [results, Tryz.results71, go_sem, q4, q9]) rfl ?_
      refine ⟨_, k, rfl, hk, ?_, (hE.trans hE7).setCell (by show w.heap.size ≤ w.heap.size + 1 + 1 + 1; omega) _⟩
      have hkt : KeepT [82, 37, 123, 3] w7 (w7.setCell ⟨w.heap.size + 1 + 1 + 1, 0, none⟩ (.slice (some ⟨g7, 0, none⟩) (k + 1) c7)) := (KeepT.refl _ _).set (hB4.ext hE7).type (by decide) _
      refine IsShelf.keep (ts := [82, 37, 123, 3]) ?_ hkt (fun _ h => h)
      refine ⟨ls.take k ++ (es ++ [Value.slice (some ⟨w4.heap.size, 0, none⟩) 1 1]) :: ls.drop k, ?_, ?_⟩
      · refine RowsOf.of_own (base := W.heap.size) ?_ ?_
        · intro l hl
          rcases List.mem_append.1 hl with h | h
          · exact HR.out.1 l (List.mem_of_mem_take h)
          · rcases List.mem_cons.1 h with h | h
            · subst h
              exact ⟨by simp [hel], one_snoc heo.out rfl⟩
            · exact HR.out.1 l (List.mem_of_mem_drop h)
        · have hll : (ls.take k ++ (es ++ [Value.slice (some ⟨w4.heap.size, 0, none⟩) 1 1]) :: ls.drop k).length = k + 1 := by have := HS.out; have := HL.out; simp; omega
          rw [hll]
          simpa using hown7
      · refine (((HA.out.mono fun _ _ h => h.ext (hE.trans hE7)).take k).append (All2.append (All2.one ?_) ((HA.out.mono fun _ _ h => h.ext (hE.trans hE7)).drop k)))
        exact IsHeld.mk (HE.out.ext (hE.trans hE7)) rfl

end Go.Proofs.YtekipapkcgoieaaGreatDoor

/- The reference's shelves: the entries of a name. -/
namespace Go.Proofs.YtekipapkcgoieaaGreatDoor
open Go.RowKit
attribute [local go_sem ↓] Go.wp_at_zero Go.wp_at_succ load_entry load_held store_entry store_held build_held slice_held sub_held

def findH (hs : List HeldD) (nm : List UInt8) : List HeldD := hs.filter fun h => h.name == nm
theorem findH_snoc (hs : List HeldD) (nm : List UInt8) (k : Nat) (hk : k < hs.length) : findH (hs.take (k + 1)) nm = findH (hs.take k) nm ++ if hs[k].name == nm then [hs[k]] else [] := by
  unfold findH
  rw [List.take_succ_eq_append_getElem hk, List.filter_append]
  congr 1
  by_cases h : hs[k].name == nm <;> simp [List.filter_cons, h]

/-- A slice of entries that the call itself is making, out of entries that were there. -/
def OwnHeld (w0 wr : World) (v : Value) (hs : List HeldD) : Prop := ∃ ms, (∀ l ∈ ms, l.length = 32 ∧ ∀ u ∈ l, u.oneCell' = true) ∧ wr.ownsRow w0.heap.size 82 32 v ms.length ms.flatten ∧ All2 (IsHeld w0) ms hs
theorem OwnHeld.shelf {w0 wr : World} {v : Value} {hs : List HeldD} (h : OwnHeld w0 wr v hs) (k : Ext w0 wr) : IsShelf wr v hs := by
  obtain ⟨ms, h1, h2, h3⟩ := h
  exact ⟨ms, RowsOf.of_own h1 h2, h3.mono fun _ _ h => h.ext k⟩
theorem OwnHeld.made {w0 w : World} (h : Ext w0 w) {g : Nat} (hg : w.heap.size = g) : OwnHeld w0 (w.alloc (.cells #[] 82)) (.slice (some ⟨g, 0, none⟩) 0 0) [] := by
  subst hg
  exact ⟨[], (fun l hl => by cases hl), World.ownsRow_made w #[] 0 h.size' (Nat.zero_le _) (by simp), trivial⟩
theorem findH_len (hs : List HeldD) (nm : List UInt8) : (findH hs nm).length ≤ hs.length := List.length_filter_le _ _

end Go.Proofs.YtekipapkcgoieaaGreatDoor

/- All of a list are in another one; two lists of names are the same. -/
namespace Go.Proofs.YtekipapkcgoieaaGreatDoor
open Go.RowKit

def within (a l : List Int) : Bool := a.all fun n => l.contains n
theorem contains_snoc (l : List Int) (k : Nat) (hk : k < l.length) (x : Int) : (l.take (k + 1)).contains x = ((l.take k).contains x || l[k] == x) := by
  rw [List.take_succ_eq_append_getElem hk]
  simp only [List.contains_eq_any_beq, List.any_append, List.any_cons, List.any_nil, Bool.or_false]
  rw [BEq.comm]
theorem all_snoc {α : Type} (l : List α) (p : α → Bool) (k : Nat) (hk : k < l.length) : (l.take (k + 1)).all p = ((l.take k).all p && p l[k]) := by
  rw [List.take_succ_eq_append_getElem hk, List.all_append]; simp
theorem all_false {α : Type} (l : List α) (p : α → Bool) (k : Nat) (hk : k < l.length) (h : p l[k] = false) : l.all p = false := by
  rw [List.all_eq_false]; exact ⟨_, List.getElem_mem hk, by simp [h]⟩

end Go.Proofs.YtekipapkcgoieaaGreatDoor
