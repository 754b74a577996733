/-
  Arguments: slices of numbers and of quadruples out of a reading, a description (Raw); arguments read again behind the call; what their bulk bounds.
  Granted hypotheses out of bytes; the number of a description.
-/
import Derived.Test.YtddgjlfniabehaaGreatDoorJ01
import Derived.Test.YtddgjlfniabehaaGreatDoorRows
import Derived.OpenShut
import Derived.ProofKit
import Derived.ReadAgain
import Derived.Deep.Slices
import Derived.Test.YtddgjlfniabehaaGreatDoorJ18
import Derived.IntWalk
set_option linter.unusedVariables false
set_option linter.unusedSimpArgs false

/- Arguments: slices of numbers and of quadruples out of a reading, a description (Raw); arguments read again behind the call; what their bulk bounds. -/
namespace Go.Proofs.YtddgjlfniabehaaGreatDoor
open Go.ChangeShapes Go.WideShapes Go.ChangeAt Go.RowKit

/-- A slice of numbers that came in: wherever its cells lie. -/
def ArgInts (k : IntKind) (w : World) (v : Value) (bs : List Int) : Prop := ∃ A c, v = .slice A bs.length c ∧ ∀ (j : Nat) (hj : j < bs.length), ∃ b o, A = some ⟨b, o, none⟩ ∧ b < w.heap.size ∧ w.cell? ⟨b, o + j, none⟩ = some (.int k bs[j])
theorem ArgInts.shape {k : IntKind} {w : World} {v : Value} {bs : List Int} (h : ArgInts k w v bs) : ∃ A c, v = .slice A bs.length c := by
  obtain ⟨A, c, e, _⟩ := h
  exact ⟨A, c, e⟩
theorem ArgInts.at {k : IntKind} {w : World} {A : Option Addr} {n c : Nat} {xs : List Int} (h : ArgInts k w (.slice A n c) xs) (j : Nat) (hj : j < xs.length) :
    ∃ b o, A = some ⟨b, o, none⟩ ∧ True ∧ ∀ w', Ext w w' → w'.cell? ⟨b, o + j, none⟩ = some (.int k xs[j]) := by
  obtain ⟨A', c', e, hx⟩ := h
  injection e with e1
  subst e1
  obtain ⟨b, o, e, hb, hc⟩ := hx j hj
  exact ⟨b, o, e, trivial, fun w' hw => (hw.cell (p := ⟨b, o + j, none⟩) hb).trans hc⟩
theorem ArgInts.ext {k : IntKind} {w w' : World} {v : Value} {bs : List Int} (h : ArgInts k w v bs) (hw : Ext w w') : ArgInts k w' v bs := by
  obtain ⟨A, c, e, hx⟩ := h
  refine ⟨A, c, e, fun j hj => ?_⟩
  obtain ⟨b, o, e, hb, hc⟩ := hx j hj
  exact ⟨b, o, e, Nat.lt_of_lt_of_le hb hw.size', (hw.cell (p := ⟨b, o + j, none⟩) hb).trans hc⟩
theorem ArgInts.nil (k : IntKind) (w : World) : ArgInts k w (.slice none 0 0) [] := ⟨none, 0, rfl, fun j hj => by simp at hj⟩
structure Q4 where
  a : Int
  b : Int
  c : Int
  d : Int
instance : Inhabited Q4 := ⟨⟨0, 0, 0, 0⟩⟩
def Q4.ok (q : Q4) : Prop := (-128 ≤ q.a ∧ q.a ≤ 127) ∧ (-128 ≤ q.b ∧ q.b ≤ 127) ∧ (-128 ≤ q.c ∧ q.c ≤ 127) ∧ (-128 ≤ q.d ∧ q.d ≤ 127)
/-- A slice of quadruples that came in: wherever its cells lie. -/
def ArgQuads (w : World) (v : Value) (qs : List Q4) : Prop := ∃ A c, v = .slice A qs.length c ∧ ∀ (j : Nat) (hj : j < qs.length), ∃ b o, A = some ⟨b, o, none⟩ ∧ b < w.heap.size ∧ w.cell? ⟨b, o + j * 4, none⟩ = some (.int .i8 qs[j].a) ∧ w.cell? ⟨b, o + j * 4 + 1, none⟩ = some (.int .i8 qs[j].b) ∧ w.cell? ⟨b, o + j * 4 + 2, none⟩ = some (.int .i8 qs[j].c) ∧ w.cell? ⟨b, o + j * 4 + 3, none⟩ = some (.int .i8 qs[j].d)
theorem ArgQuads.shape {w : World} {v : Value} {qs : List Q4} (h : ArgQuads w v qs) : ∃ A c, v = .slice A qs.length c := by
  obtain ⟨A, c, e, _⟩ := h
  exact ⟨A, c, e⟩
theorem ArgQuads.at {w : World} {A : Option Addr} {n c : Nat} {qs : List Q4} (h : ArgQuads w (.slice A n c) qs) (j : Nat) (hj : j < qs.length) :
    ∃ b o, A = some ⟨b, o, none⟩ ∧ ∀ w', Ext w w' → w'.cell? ⟨b, o + j * 4, none⟩ = some (.int .i8 qs[j].a) ∧ w'.cell? ⟨b, o + j * 4 + 1, none⟩ = some (.int .i8 qs[j].b) ∧ w'.cell? ⟨b, o + j * 4 + 2, none⟩ = some (.int .i8 qs[j].c) ∧ w'.cell? ⟨b, o + j * 4 + 3, none⟩ = some (.int .i8 qs[j].d) := by
  obtain ⟨A', c', e, hx⟩ := h
  injection e with e1
  subst e1
  obtain ⟨b, o, e, hb, h0, h1, h2, h3⟩ := hx j hj
  exact ⟨b, o, e, fun w' hw => ⟨(hw.cell (p := ⟨b, _, none⟩) hb).trans h0, (hw.cell (p := ⟨b, _, none⟩) hb).trans h1, (hw.cell (p := ⟨b, _, none⟩) hb).trans h2, (hw.cell (p := ⟨b, _, none⟩) hb).trans h3⟩⟩
theorem ArgQuads.ext {w w' : World} {v : Value} {qs : List Q4} (h : ArgQuads w v qs) (hw : Ext w w') : ArgQuads w' v qs := by
  obtain ⟨A, c, rfl, hx⟩ := h
  refine ⟨A, c, rfl, fun j hj => ?_⟩
  obtain ⟨b, o, e, hb, h0, h1, h2, h3⟩ := hx j hj
  exact ⟨b, o, e, Nat.lt_of_lt_of_le hb hw.size', (hw.cell (p := ⟨b, _, none⟩) hb).trans h0, (hw.cell (p := ⟨b, _, none⟩) hb).trans h1, (hw.cell (p := ⟨b, _, none⟩) hb).trans h2, (hw.cell (p := ⟨b, _, none⟩) hb).trans h3⟩


theorem bulk_one {H : Type} (d : DataW H) : 1 ≤ Rows.uptoBulk d := by
  cases d with
  | lit l => cases l <;> simp [Rows.uptoBulk]
  | nil => simp [Rows.uptoBulk]
  | ptr d => simp [Rows.uptoBulk]
  | slice elems spare => simp [Rows.uptoBulk]
  | agg parts => simp [Rows.uptoBulk]
  | iface t d => simp [Rows.uptoBulk]
  | map entries => simp [Rows.uptoBulk]
  | held h => simp [Rows.uptoBulk]
theorem bulk_length {H : Type} (l : List (DataW H)) : l.length ≤ Rows.uptoBulkAll l := by
  induction l with
  | nil => simp [Rows.uptoBulkAll]
  | cons x r ih => have := bulk_one x; simp only [Rows.uptoBulkAll, List.length_cons]; omega

section
variable {H : Type} {enc : TypeId × Value → H} {P : Program} {w : World} {fuel : Nat} {t e : TypeId} {cs : List Value} {x : DataW H × List MemPlace}
theorem cell_lt {p : Addr} {v : Value} (h : w.cell? p = some v) : p.block < w.heap.size := by
  rcases Nat.lt_or_ge p.block w.heap.size with h1 | h1
  · exact h1
  · unfold World.cell? at h
    rw [Array.getElem?_eq_none h1] at h
    split at h <;> simp_all
/-- A slice of numbers, opened. -/
theorem arg_ints {k : IntKind} (ht : P.underlying t = some (.slice e)) (he : P.underlying e = some (.int k)) (hc : P.cellsOf e = 1)
    (h : DataW.trod enc P w 0 (fun _ => true) true fuel t cs = some x) :
    ∃ (v : Value) (zs : List Int), cs = [v] ∧ ArgInts k w v zs ∧ (∀ n ∈ zs, (Lit.int k n).wf = true) ∧ zs.length + 1 ≤ Rows.uptoBulk x.1 := by
  rcases open_ints ht he hc h with ⟨rfl, rfl⟩ | ⟨a, len, cap, zs, rfl, _, hl, _, hz, rfl, hcell, hwf⟩
  · exact ⟨_, [], rfl, ArgInts.nil k w, (fun n hn => by cases hn), by simp [Rows.uptoBulk]⟩
  · simp only [if_true] at hz
    have hlen : (zs.take len).length = len := by rw [List.length_take]; omega
    refine ⟨_, zs.take len, rfl, ⟨some a, cap, by rw [hlen], fun j hj => ?_⟩, fun n hn => hwf n (List.mem_of_mem_take hn), ?_⟩
    · rw [hlen] at hj
      obtain ⟨b, off, rfl, hx⟩ := ints_at hcell (by omega)
      have := hx j (by omega)
      refine ⟨b, off, rfl, cell_lt (p := ⟨b, off + j, none⟩) this, ?_⟩
      rw [this]
      simp [List.getD, List.getElem?_eq_getElem (show j < zs.length by omega)]
    · simp only [Rows.uptoBulk]
      have := bulk_length (lits (H := H) k (zs.take len))
      simp only [lits, List.length_map] at this ⊢
      omega
theorem trod_num {k : IntKind} {n : Nat} {l : List Value} {y : Option (DataW H × List MemPlace)} (ht : P.underlying t = some (.int k)) (h : DataW.trod enc P w 0 (fun _ => true) true n t l = y) (hy : y.isSome) : ∃ m, l = [.int k m] ∧ (Lit.int k m).wf = true := by
  obtain ⟨y, rfl⟩ := Option.isSome_iff_exists.1 hy
  obtain ⟨m, e, _, hw⟩ := DataW.trod_int ht h
  exact ⟨m, e, hw⟩
/-- A slice of quadruples, opened. -/
theorem arg_quads {c : TypeId} (ht : P.underlying t = some (.slice e)) (he : P.underlying e = some (.array 4 c)) (hi : P.underlying c = some (.int .i8)) (ce : P.cellsOf e = 4) (cc : P.cellsOf c = 1)
    (h : DataW.trod enc P w 0 (fun _ => true) true fuel t cs = some x) :
    ∃ (v : Value) (qs : List Q4), cs = [v] ∧ ArgQuads w v qs ∧ (∀ q ∈ qs, q.ok) ∧ qs.length + 1 ≤ Rows.uptoBulk x.1 := by
  rcases Go.Deep.open_slice ht h with ⟨rfl, rfl⟩ | ⟨a, len, cap, m, n, D, Pl, rfl, _, hl, _, hm, rfl, hel⟩
  · exact ⟨_, [], rfl, ⟨none, 0, rfl, fun j hj => by simp at hj⟩, (fun q hq => by cases hq), by simp [Rows.uptoBulk]⟩
  · simp only [if_true] at hm
    subst hm
    obtain ⟨f, hf⟩ := Go.Deep.choose_lt (α := Q4) (p := fun i q => q.ok ∧ w.cell? ((a.add (i * 4)).add 0) = some (.int .i8 q.a) ∧ w.cell? ((a.add (i * 4)).add 1) = some (.int .i8 q.b) ∧ w.cell? ((a.add (i * 4)).add 2) = some (.int .i8 q.c) ∧ w.cell? ((a.add (i * 4)).add 3) = some (.int .i8 q.d)) (n := m) (fun i hi' => by
      obtain ⟨cs', h1, h2⟩ := hel i hi'
      rw [ce] at h1
      obtain ⟨_, hl4, hcl⟩ := World.cells?_some h1
      obtain ⟨xs, k, _, _, hlc, hxs, hxe⟩ := DataW.trod_array he h2
      match cs', hl4 with
      | [c0, c1, c2, c3], _ =>
        rw [cc] at hxe
        obtain ⟨n0, e0, w0⟩ := trod_num hi (hxe 0 (by omega)) (by simp [hxs])
        obtain ⟨n1, e1, w1⟩ := trod_num hi (hxe 1 (by omega)) (by simp [hxs])
        obtain ⟨n2, e2, w2⟩ := trod_num hi (hxe 2 (by omega)) (by simp [hxs])
        obtain ⟨n3, e3, w3⟩ := trod_num hi (hxe 3 (by omega)) (by simp [hxs])
        simp at e0 e1 e2 e3
        subst e0 e1 e2 e3
        exact ⟨⟨n0, n1, n2, n3⟩, ⟨bounds_i8 w0, bounds_i8 w1, bounds_i8 w2, bounds_i8 w3⟩, hcl 0 (by omega), hcl 1 (by omega), hcl 2 (by omega), hcl 3 (by omega)⟩)
    refine ⟨_, (List.range len).map f, rfl, ⟨some a, m, by simp, fun j hj => ?_⟩, fun q hq => ?_, ?_⟩
    · simp only [List.length_map, List.length_range] at hj
      obtain ⟨_, h0, h1, h2, h3⟩ := hf 0 (by omega)
      obtain ⟨b, off, spot⟩ := a
      have hspot : spot = none := by simpa [Addr.add] using World.cell?_spot h0
      subst hspot
      obtain ⟨_, k0, k1, k2, k3⟩ := hf j (by omega)
      simp only [add_plain] at k0 k1 k2 k3
      simp only [List.getElem_map, List.getElem_range]
      exact ⟨b, off, rfl, cell_lt (p := ⟨b, _, none⟩) k0, k0, k1, k2, k3⟩
    · obtain ⟨i, hi', rfl⟩ := List.mem_map.1 hq
      exact (hf i (by have := List.mem_range.1 hi'; omega)).1
    · simp only [Rows.uptoBulk]
      have := bulk_length ((List.range len).map D)
      simp only [List.length_map, List.length_range] at this ⊢
      omega
end

section
variable {H : Type} {enc : TypeId × Value → H} {W W' : World}
theorem rKids : Kids Tryz.prog (· < Tryz.prog.types.size) := kids_rows (by kernel_rfl) (by kernel_rfl)
theorem rFull : ∀ t e, t < Tryz.prog.types.size → Tryz.prog.underlying t = some (.slice e) → 0 < Tryz.prog.cellsOf e := slices_full_of Tryz.prog (by kernel_rfl)
theorem trodAll_carry (P : Program) : ∀ {ts : List TypeId} {vs : List Value} {ds : List (DataW H)} {ps : List MemPlace}, DataW.TrodAll enc P W 0 (fun _ => true) true ts vs ds ps → (∀ q ∈ ps, W.sameAt W' q) → DataW.TrodAll enc P W' 0 (fun _ => true) true ts vs ds ps
  | [], [], [], _, h, _ => h
  | _ :: _, _ :: _, _ :: _, _, ⟨p, q, ⟨n, hn⟩, h2, e⟩, hs => ⟨p, q, ⟨n, DataW.trod_carry n _ _ _ hn (fun x hx => hs x (by rw [e]; exact List.mem_append_left _ hx))⟩, trodAll_carry P h2 (fun x hx => hs x (by rw [e]; exact List.mem_append_right _ hx)), e⟩
/-- Arguments read again behind a call that turns nothing old. -/
theorem args_again {ts : List TypeId} {vs : List Value} {ds : List (DataW H)} {ps : List MemPlace} (h : DataW.TrodAll enc Tryz.prog W 0 (fun _ => true) true ts vs ds ps) (hT : ∀ t ∈ ts, t < Tryz.prog.types.size) (hlt : ∀ q ∈ ps, q.block < W.heap.size) (hE : Ext W W') (sp : Nat → Bool) (hsp : ∀ q ∈ ps, sp q.block = true) :
    DataW.TrodAll enc Tryz.prog W' 0 sp true ts vs ds ps := by
  refine DataW.TrodAll.respare rKids rFull hT (trodAll_carry _ h fun q hq => ?_) hsp
  have hb := hlt q hq
  cases q with
  | cell b off => exact hE.cell (p := ⟨b, off, none⟩) hb
  | map b => exact hE.block b hb
end

theorem okWide_struct {P : Program} {fs : Array Field} {w : World} {r : Reach} {b : Nat} {t : TypeId} {v : Value} (ht : P.underlying t = some (.struct fs)) (h : Value.okWide P w r b t v) : ∃ cs, v = .agg cs ∧ cs.size = P.cellsOf t := by
  unfold Value.okWide at h
  rw [ht] at h
  obtain ⟨cs, e, hs, _⟩ := h
  exact ⟨cs, e, hs⟩
theorem okWide_slice {P : Program} {e : TypeId} {w : World} {r : Reach} {b : Nat} {t : TypeId} {v : Value} (ht : P.underlying t = some (.slice e)) (h : Value.okWide P w r b t v) : ∃ A n c, v = .slice A n c := by
  unfold Value.okWide at h
  rw [ht] at h
  simp only at h
  unfold Cell.okWide at h
  rw [ht] at h
  cases v <;> simp [Cell.ok, ht] at h
  exact ⟨_, _, _, rfl⟩
theorem arg_raw4 {P : Program} {H : Type} {enc : TypeId × Value → H} {W : World} {t e1 e2 : TypeId} {f0 f1 f2 f3 : Field} {v : Value} {d : DataW H} {ps : List MemPlace} (ht : P.underlying t = some (.struct #[f0, f1, f2, f3])) (hc : P.cellsOf t = 4)
    (o0 : f0.offset = 0) (o1 : f1.offset = 1) (o2 : f2.offset = 2) (o3 : f3.offset = 3) (c0 : P.cellsOf f0.type = 1) (c1 : P.cellsOf f1.type = 1) (c2 : P.cellsOf f2.type = 1) (c3 : P.cellsOf f3.type = 1)
    (u0 : P.underlying f0.type = some (.int .u8)) (u1 : P.underlying f1.type = some (.slice e1)) (u2 : P.underlying f2.type = some (.slice e2)) (u3 : P.underlying f3.type = some (.slice e1))
    (k1 : P.underlying e1 = some (.int .u8)) (k2 : P.underlying e2 = some (.int .i8)) (d1 : P.cellsOf e1 = 1) (d2 : P.cellsOf e2 = 1)
    {b0 : Nat} (hv : Value.okWide P W .any b0 t v) (h : DataW.Trod enc P W 0 (fun _ => true) true t v d ps) :
    ∃ (n : Int) (ov bv yv : Value) (os bs ys : List Int), v = .agg #[.int .u8 n, ov, bv, yv] ∧ (0 ≤ n ∧ n ≤ 255) ∧ ArgInts .u8 W ov os ∧ ArgInts .i8 W bv bs ∧ ArgInts .u8 W yv ys ∧ (∀ b ∈ os, 0 ≤ b ∧ b ≤ 255) ∧ (∀ b ∈ bs, -128 ≤ b ∧ b ≤ 127) ∧ (∀ b ∈ ys, 0 ≤ b ∧ b ≤ 255) ∧ os.length + bs.length + ys.length ≤ Rows.uptoBulk d := by
  obtain ⟨cs, rfl, hsz⟩ := okWide_struct ht hv
  obtain ⟨fuel, hf⟩ := h
  obtain ⟨xs, n, _, hx, hl, hxs, hfld⟩ := DataW.trod_struct ht hf
  rw [hc] at hsz
  obtain ⟨l⟩ := cs
  simp only [List.size_toArray] at hsz
  match l, hsz, xs, hxs with
  | [v0, v1, v2, v3], _, [y0, y1, y2, y3], _ =>
    have e0 := hfld 0 f0 rfl
    have e1 := hfld 1 f1 rfl
    have e2 := hfld 2 f2 rfl
    have e3 := hfld 3 f3 rfl
    rw [o0, c0] at e0
    rw [o1, c1] at e1
    rw [o2, c2] at e2
    rw [o3, c3] at e3
    simp [Value.cells] at e0 e1 e2 e3
    obtain ⟨m, em, _, hw⟩ := DataW.trod_int u0 e0
    obtain ⟨w1, os, q1, ho, hwo, hbo⟩ := arg_ints u1 k1 d1 e1
    obtain ⟨w2, bs, q2, hb, hwb, hbb⟩ := arg_ints u2 k2 d2 e2
    obtain ⟨w3, ys, q3, hy, hwy, hby⟩ := arg_ints u3 k1 d1 e3
    simp at em q1 q2 q3
    subst em q1 q2 q3
    refine ⟨m, v1, v2, v3, os, bs, ys, rfl, bounds_u8 hw, ho, hb, hy, fun b h => bounds_u8 (hwo b h), fun b h => bounds_i8 (hwb b h), fun b h => bounds_u8 (hwy b h), ?_⟩
    injection hx with hx _
    rw [hx]
    simp only [List.map_cons, List.map_nil, Rows.uptoBulk, Rows.uptoBulkAll]
    omega
set_option maxRecDepth 100000 in
/-- A description, opened. -/
theorem arg_raw {H : Type} {enc : TypeId × Value → H} {W : World} {v : Value} {d : DataW H} {ps : List MemPlace} {b0 : Nat} (hv : Value.okWide Tryz.prog W .any b0 25 v)
    (h : DataW.Trod enc Tryz.prog W 0 (fun _ => true) true 25 v d ps) :
    ∃ (n : Int) (ov bv yv : Value) (os bs ys : List Int), v = .agg #[.int .u8 n, ov, bv, yv] ∧ (0 ≤ n ∧ n ≤ 255) ∧ ArgInts .u8 W ov os ∧ ArgInts .i8 W bv bs ∧ ArgInts .u8 W yv ys ∧ (∀ b ∈ os, 0 ≤ b ∧ b ≤ 255) ∧ (∀ b ∈ bs, -128 ≤ b ∧ b ≤ 127) ∧ (∀ b ∈ ys, 0 ≤ b ∧ b ≤ 255) ∧ os.length + bs.length + ys.length ≤ Rows.uptoBulk d :=
  arg_raw4 Tryz.underlying25 (by kernel_rfl) rfl rfl rfl rfl (by kernel_rfl) (by kernel_rfl) (by kernel_rfl) (by kernel_rfl) Tryz.underlying5 Tryz.underlying22 Tryz.underlying23 Tryz.underlying22 Tryz.underlying5 Tryz.underlying113 (by kernel_rfl) (by kernel_rfl) hv h

end Go.Proofs.YtddgjlfniabehaaGreatDoor

/- Granted hypotheses out of bytes; the number of a description. -/
namespace Go.Proofs.YtddgjlfniabehaaGreatDoor
open Go.RowKit
attribute [local go_sem ↓] Go.wp_at_zero Go.wp_at_succ

def cellsN (xs : List Int) : List (List Value) := xs.map fun n => [Value.int .i64 n]
theorem cellsN_ok (xs : List Int) : ∀ l ∈ cellsN xs, l.length = 1 ∧ ∀ u ∈ l, u.oneCell' = true := by
  intro l hl
  obtain ⟨s, _, rfl⟩ := List.mem_map.1 hl
  exact ⟨rfl, fun u hu => by rw [List.mem_singleton.1 hu]; rfl⟩
/-- A slice of integers that the call itself is making. -/
def OwnNums (base : Nat) (w : World) (v : Value) (xs : List Int) : Prop := w.ownsRow base 3 1 v (cellsN xs).length (cellsN xs).flatten
theorem OwnNums.nums {base : Nat} {w : World} {v : Value} {xs : List Int} (h : OwnNums base w v xs) : IsNums w v xs := RowsOf.of_own (cellsN_ok xs) h
theorem OwnNums.shape {base : Nat} {w : World} {v : Value} {xs : List Int} (h : OwnNums base w v xs) : ∃ A c, v = .slice A xs.length c := by
  obtain ⟨A, c, e⟩ := RowsOf.shape (OwnNums.nums h)
  exact ⟨A, c, by rw [e, List.length_map]⟩
theorem int_info : (Tryz.prog.info? 3).map (fun i => (i.zero.map (·.cells.size), i.size, i.bytes)) = some (some 1, 1, 8) := by kernel_rfl
theorem run_none_nums (w : World) : (Instr.buildSlice 32 0 #[]).run Tryz.prog w = .ok (.slice (some ⟨w.heap.size, 0, none⟩) 0 0) (w.alloc (.cells #[] 3)) := by
  unfold Instr.buildSlice
  simp [go_sem]
def grantedOf (bs : List Int) : List Int := bs.map fun b => b % 6
theorem grantedOf_snoc (bs : List Int) (k : Nat) (hk : k < bs.length) : grantedOf (bs.take (k + 1)) = grantedOf (bs.take k) ++ [bs[k] % 6] := by
  unfold grantedOf
  rw [List.take_succ_eq_append_getElem hk, List.map_append]; rfl

set_option maxRecDepth 100000 in
set_option maxHeartbeats 4000000 in
theorem granted_any (lv : Value) (bs : List Int) (w : World) (hl : bs.length ≤ 100000000) (hb : ∀ b ∈ bs, 0 ≤ b ∧ b ≤ 255) (h1 : ArgInts .u8 w lv bs) :
    Calls Tryz.prog 10 #[lv] w fun e w' => ∃ v, e = .returned v ∧ OwnNums w.heap.size w' v (grantedOf bs) ∧ Ext w w' := by
  obtain ⟨A, c, rfl⟩ := h1.shape
  have H1 := Lib.hid h1
  have HB := Lib.hid hb
  clear h1 hb
  have rn := run_none_nums
  go_enter Tryz.func10, Tryz.ntmps10
  go_wp2_with fail
  have hst : OwnNums w.heap.size (w.alloc (.cells #[] 3)) (.slice (some ⟨w.heap.size, 0, none⟩) 0 0) (grantedOf (bs.take 0)) := own_blk0 (Blk.newAt _ _ _ rfl) (Nat.le_refl _)
  have HST := Lib.hid hst
  clear hst rn
  go_loopw [3, 4] (fun v t wr => ∃ (i : Nat) (B : Option Addr) (d : Nat), i ≤ bs.length ∧ t = .int .i64 (i : Int) ∧ v = .slice B i d ∧ Hid (OwnNums w.heap.size wr v (grantedOf (bs.take i))) ∧ Ext w wr) (fun _ t _ => bs.length - (intOf t).toNat)
  case atStart => exact ⟨0, _, _, Nat.zero_le _, rfl, rfl, HST, (Ext.refl _).alloc _⟩
  case round =>
    obtain ⟨i, B, d, hi, rfl, rfl, hO, hEr⟩ := hrel
    by_cases hlt : i < bs.length
    · obtain ⟨b1, o1, rfl, -, hc1⟩ := H1.out.at i hlt
      have hcx := hc1 wr hEr
      have hsn := grantedOf_snoc bs i hlt
      have hxb := HB.out _ (List.getElem_mem hlt)
      have hol : (grantedOf (bs.take i)).length = i := by simp [grantedOf]; omega
      clear hc1
      generalize bs[i] = x at *
      generalize grantedOf (bs.take i) = out at *
      have HSN := Lib.hid hsn
      obtain ⟨y, hy⟩ : ∃ y : Int, x % 6 = y := ⟨_, rfl⟩
      have hw1 : IntKind.i64.wrap y = y := IntWalk.i64_in _ (by omega)
      rw [hy] at HSN
      have hcl : (cellsN out).length = i := by simp [cellsN, hol]
      have HOL := Lib.hid hol
      clear hsn hol
      go_wp2_with (with_reducible refine stop_at 20 ?_)
      have ho := hO.out
      unfold OwnNums at ho
      rw [hcl] at ho
      refine wpList_append_rows rfl (.tmp 12) (.tmp 19) _ rfl w.heap.size 3 1 8 Tryz.underlying32 int_info (by decide) (.slice B i d) i (cellsN out).flatten rfl (own_ext ho ((Ext.refl _).alloc _)) _ [[.int .i64 y]] rfl (RowsOf.one_new _ _ _ rfl (fun u hu => by rw [List.mem_singleton.1 hu]; rfl) rfl) (by simp; unfold maxLen; omega) (by simp; omega) (by have := hEr.size'; simp; omega) ?_
      intro v' w3 hown3 hgrow
      have hE3 : Ext w w3 := (hEr.alloc _).grown hgrow (own_block (own_ext ho ((Ext.refl wr).alloc (.cells #[.int .i64 y] 3))))
      have ho3 : OwnNums w.heap.size w3 v' (out ++ [y]) := by
        unfold OwnNums
        rw [show cellsN (out ++ [y]) = cellsN out ++ [[Value.int .i64 y]] by simp [cellsN], List.flatten_append, List.length_append, hcl]
        exact hown3
      obtain ⟨A', c', rfl⟩ := ho3.shape
      have hl3 : (out ++ [y]).length = i + 1 := by rw [List.length_append, HOL.out]; rfl
      rw [hl3] at ho3
      rw [hl3]
      rw [← HSN.out] at ho3
      have HO3 := Lib.hid ho3
      clear hown3 hgrow ho ho3 hl3 hcx hcl HOL hO hy
      go_wp2
      exact ⟨⟨i + 1, A', c', by omega, by go_num, rfl, HO3, hE3⟩, by (simp [intOf] <;> omega)⟩
    · obtain rfl : i = bs.length := by omega
      rw [List.take_length] at hO
      go_wp2
      go_ret
      exact ⟨_, rfl, hO.out, hEr⟩

theorem Number38_any (n : Int) (A1 A2 A3 : Option Addr) (n1 c1 n2 c2 n3 c3 : Nat) (w : World) (h1 : 0 ≤ n) (h2 : n ≤ 255) :
    Calls Tryz.prog 13 #[.agg #[.int .u8 n, .slice A1 n1 c1, .slice A2 n2 c2, .slice A3 n3 c3]] w fun e w' => e = .returned (.int .i64 (1 + n % 60)) ∧ Ext w w' := by
  go_enter Tryz.func13, Tryz.ntmps13
  go_wp2
  go_ret
  exact ⟨rfl, by (repeat (first | with_reducible assumption | with_reducible exact Ext.refl _ | with_reducible refine Ext.drew ?_ | with_reducible refine Ext.drewN ?_ _ | with_reducible refine Ext.alloc ?_ _ | with_reducible refine Ext.set2 ?_ (by omega) _ _ | with_reducible refine Ext.setCell ?_ (by first | omega | (simp; done) | (simp; omega)) _ | with_reducible refine Ext.trans ?_ (by with_reducible assumption)))⟩

end Go.Proofs.YtddgjlfniabehaaGreatDoor
