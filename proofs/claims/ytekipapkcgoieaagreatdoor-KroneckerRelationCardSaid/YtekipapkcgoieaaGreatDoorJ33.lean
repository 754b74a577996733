/-
  The law on changed values: what it computes.
-/
import Derived.Test.YtekipapkcgoieaaGreatDoorJ30
import Derived.Test.YtekipapkcgoieaaGreatDoorJ31
import Derived.Test.YtekipapkcgoieaaGreatDoorJ17
import Derived.Test.YtekipapkcgoieaaGreatDoorJ20
import Derived.Test.YtekipapkcgoieaaGreatDoorJ16b
import Derived.Test.YtekipapkcgoieaaGreatDoorJ18
import Derived.IntWalk
set_option linter.unusedVariables false
set_option linter.unusedSimpArgs false

/- The law on changed values: what it computes. -/
namespace Go.Proofs.YtekipapkcgoieaaGreatDoor
open Go.RowKit
attribute [local go_sem ↓] Go.wp_at_zero Go.wp_at_succ
attribute [local go_sem ↓] load_entry store_entry build_entry

/-- The cells of an entry with a name and a slice of values alone. -/
def entry2 (nm : List UInt8) (A : Option Addr) (n c : Nat) : List Value := .string ⟨nm.toArray⟩ :: .slice A n c :: entry0.drop 2
theorem run_build_two (w : World) (nm : List UInt8) (A : Option Addr) (n c : Nat) : (bigBuild 77 #[(0, .string ⟨nm.toArray⟩), (1, .slice A n c)]).run Tryz.prog w = .ok (.agg (entry2 nm A n c).toArray) w := by
  unfold bigBuild Instr.build entry2 entry0
  simp [go_sem]
theorem entry2_one (nm : List UInt8) (A : Option Addr) (n c : Nat) : ∀ u ∈ entry2 nm A n c, u.oneCell' = true := by
  intro u hu
  rcases List.mem_cons.1 hu with rfl | hu
  · rfl
  · rcases List.mem_cons.1 hu with rfl | hu
    · rfl
    · exact entry0_one u (List.mem_of_mem_drop hu)
theorem entry2_is {w : World} {g : Nat} {nm : List UInt8} {s : Bool} {A : Option Addr} {n c : Nat} {z : Int} (hB : Blk w g 37 #[.bool s, .slice A n c]) (hi : IsInt w (.bool s) (.slice A n c) z) :
    IsEntry w (entry2 nm (some ⟨g, 0, none⟩) 1 1) ⟨nm, [z], []⟩ :=
  ⟨rfl, entry2_one _ _ _ _, rfl, ⟨_, rfl, [[.bool s, .slice A n c]], RowsOf.one_blk hB rfl (by intro u hu; simp at hu; rcases hu with rfl | rfl <;> rfl), ⟨_, _, rfl, hi⟩, trivial⟩, _, rfl, IsNums.nil _⟩
theorem laid_entry {we W : World} {g gi : Nat} {nm : List UInt8} {s : Bool} {A : Option Addr} {n c : Nat} {z : Int} (hW : Blk W g 77 entry0.toArray) (hB : Blk W gi 37 #[.bool s, .slice A n c])
    (hq : IsInt W (.bool s) (.slice A n c) z) (hE : Ext we W) (hg : we.heap.size ≤ g) :
    Blk (W.setCells g 0 (entry2 nm (some ⟨gi, 0, none⟩) 1 1)) g 77 (entry2 nm (some ⟨gi, 0, none⟩) 1 1).toArray ∧ IsEntry (W.setCells g 0 (entry2 nm (some ⟨gi, 0, none⟩) 1 1)) (entry2 nm (some ⟨gi, 0, none⟩) 1 1) ⟨nm, [z], []⟩ ∧ Ext we (W.setCells g 0 (entry2 nm (some ⟨gi, 0, none⟩) 1 1)) := by
  have hne : gi ≠ g := hB.type.ne hW.type (by decide)
  refine ⟨hW.setAll rfl, entry2_is (Blk.farCells hne _ hB 0) ?_, hE.setCells _ hg 0⟩
  exact hq.keep ((KeepT.refl _ _).setCells (by decide) _ hW.type 0)
theorem parts_ne0 {n j : Nat} {p : PartD} (h : p ∈ partsR n j) : p.c ≠ 0 := by
  unfold partsR at h
  rw [List.mem_filterMap] at h
  obtain ⟨m, hm, h⟩ := h
  unfold partM at h
  split at h
  · rename_i hp
    injection h with h
    subst h
    intro h0
    change mkRat (cnt (4 * n) m (2 * n) (4 * n + 1)) 12 = 0 at h0
    rw [Rat.mkRat_eq_zero (by decide)] at h0
    omega
  · cases h

/-- A part laid into a block of its own. -/
theorem put9 {w3 w : World} {g : Nat} {z0 z1 z2 z3 z4 z5 z6 z7 z8 : Value} (h : Blk w g 45 #[z0, z1, z2, z3, z4, z5, z6, z7, z8]) (hE : Ext w3 w) (hg : w3.heap.size ≤ g) (v0 v1 v2 v3 v4 v5 v6 v7 v8 : Value) :
    Blk (((((((((w.setCell ⟨g, 0, none⟩ v0).setCell ⟨g, 1, none⟩ v1).setCell ⟨g, 2, none⟩ v2).setCell ⟨g, 3, none⟩ v3).setCell ⟨g, 4, none⟩ v4).setCell ⟨g, 5, none⟩ v5).setCell ⟨g, 6, none⟩ v6).setCell ⟨g, 7, none⟩ v7).setCell ⟨g, 8, none⟩ v8) g 45 #[v0, v1, v2, v3, v4, v5, v6, v7, v8] ∧
      Ext w3 (((((((((w.setCell ⟨g, 0, none⟩ v0).setCell ⟨g, 1, none⟩ v1).setCell ⟨g, 2, none⟩ v2).setCell ⟨g, 3, none⟩ v3).setCell ⟨g, 4, none⟩ v4).setCell ⟨g, 5, none⟩ v5).setCell ⟨g, 6, none⟩ v6).setCell ⟨g, 7, none⟩ v7).setCell ⟨g, 8, none⟩ v8) ∧
      (∀ k t cs, k ≠ g → Blk w k t cs → Blk (((((((((w.setCell ⟨g, 0, none⟩ v0).setCell ⟨g, 1, none⟩ v1).setCell ⟨g, 2, none⟩ v2).setCell ⟨g, 3, none⟩ v3).setCell ⟨g, 4, none⟩ v4).setCell ⟨g, 5, none⟩ v5).setCell ⟨g, 6, none⟩ v6).setCell ⟨g, 7, none⟩ v7).setCell ⟨g, 8, none⟩ v8) k t cs) ∧
      (∀ v hs, IsShelf w v hs → IsShelf (((((((((w.setCell ⟨g, 0, none⟩ v0).setCell ⟨g, 1, none⟩ v1).setCell ⟨g, 2, none⟩ v2).setCell ⟨g, 3, none⟩ v3).setCell ⟨g, 4, none⟩ v4).setCell ⟨g, 5, none⟩ v5).setCell ⟨g, 6, none⟩ v6).setCell ⟨g, 7, none⟩ v7).setCell ⟨g, 8, none⟩ v8) v hs) ∧
      (((((((((w.setCell ⟨g, 0, none⟩ v0).setCell ⟨g, 1, none⟩ v1).setCell ⟨g, 2, none⟩ v2).setCell ⟨g, 3, none⟩ v3).setCell ⟨g, 4, none⟩ v4).setCell ⟨g, 5, none⟩ v5).setCell ⟨g, 6, none⟩ v6).setCell ⟨g, 7, none⟩ v7).setCell ⟨g, 8, none⟩ v8).heap.size = w.heap.size := by
  have t0 := h.type
  have t1 := t0.setCell ⟨g, 0, none⟩ v0
  have t2 := t1.setCell ⟨g, 1, none⟩ v1
  have t3 := t2.setCell ⟨g, 2, none⟩ v2
  have t4 := t3.setCell ⟨g, 3, none⟩ v3
  have t5 := t4.setCell ⟨g, 4, none⟩ v4
  have t6 := t5.setCell ⟨g, 5, none⟩ v5
  have t7 := t6.setCell ⟨g, 6, none⟩ v6
  have t8 := t7.setCell ⟨g, 7, none⟩ v7
  have b0 : Blk (w.setCell ⟨g, 0, none⟩ v0) g 45 #[v0, z1, z2, z3, z4, z5, z6, z7, z8] := h.set_ 0 v0
  have b1 : Blk ((w.setCell ⟨g, 0, none⟩ v0).setCell ⟨g, 1, none⟩ v1) g 45 #[v0, v1, z2, z3, z4, z5, z6, z7, z8] := b0.set_ 1 v1
  have b2 : Blk (((w.setCell ⟨g, 0, none⟩ v0).setCell ⟨g, 1, none⟩ v1).setCell ⟨g, 2, none⟩ v2) g 45 #[v0, v1, v2, z3, z4, z5, z6, z7, z8] := b1.set_ 2 v2
  have b3 : Blk ((((w.setCell ⟨g, 0, none⟩ v0).setCell ⟨g, 1, none⟩ v1).setCell ⟨g, 2, none⟩ v2).setCell ⟨g, 3, none⟩ v3) g 45 #[v0, v1, v2, v3, z4, z5, z6, z7, z8] := b2.set_ 3 v3
  have b4 : Blk (((((w.setCell ⟨g, 0, none⟩ v0).setCell ⟨g, 1, none⟩ v1).setCell ⟨g, 2, none⟩ v2).setCell ⟨g, 3, none⟩ v3).setCell ⟨g, 4, none⟩ v4) g 45 #[v0, v1, v2, v3, v4, z5, z6, z7, z8] := b3.set_ 4 v4
  have b5 : Blk ((((((w.setCell ⟨g, 0, none⟩ v0).setCell ⟨g, 1, none⟩ v1).setCell ⟨g, 2, none⟩ v2).setCell ⟨g, 3, none⟩ v3).setCell ⟨g, 4, none⟩ v4).setCell ⟨g, 5, none⟩ v5) g 45 #[v0, v1, v2, v3, v4, v5, z6, z7, z8] := b4.set_ 5 v5
  have b6 : Blk (((((((w.setCell ⟨g, 0, none⟩ v0).setCell ⟨g, 1, none⟩ v1).setCell ⟨g, 2, none⟩ v2).setCell ⟨g, 3, none⟩ v3).setCell ⟨g, 4, none⟩ v4).setCell ⟨g, 5, none⟩ v5).setCell ⟨g, 6, none⟩ v6) g 45 #[v0, v1, v2, v3, v4, v5, v6, z7, z8] := b5.set_ 6 v6
  have b7 : Blk ((((((((w.setCell ⟨g, 0, none⟩ v0).setCell ⟨g, 1, none⟩ v1).setCell ⟨g, 2, none⟩ v2).setCell ⟨g, 3, none⟩ v3).setCell ⟨g, 4, none⟩ v4).setCell ⟨g, 5, none⟩ v5).setCell ⟨g, 6, none⟩ v6).setCell ⟨g, 7, none⟩ v7) g 45 #[v0, v1, v2, v3, v4, v5, v6, v7, z8] := b6.set_ 7 v7
  have b8 : Blk (((((((((w.setCell ⟨g, 0, none⟩ v0).setCell ⟨g, 1, none⟩ v1).setCell ⟨g, 2, none⟩ v2).setCell ⟨g, 3, none⟩ v3).setCell ⟨g, 4, none⟩ v4).setCell ⟨g, 5, none⟩ v5).setCell ⟨g, 6, none⟩ v6).setCell ⟨g, 7, none⟩ v7).setCell ⟨g, 8, none⟩ v8) g 45 #[v0, v1, v2, v3, v4, v5, v6, v7, v8] := b7.set_ 8 v8
  have hx : 45 ∉ [82, 37, 123, 3] := by decide
  refine ⟨?_, ?_, fun k t cs hk hb => ?_, fun v hs hS => ?_, by simp [World.setCell]⟩
  · exact b8
  · exact ((((((((hE.setCell (p := ⟨g, 0, none⟩) hg v0).setCell (p := ⟨g, 1, none⟩) hg v1).setCell (p := ⟨g, 2, none⟩) hg v2).setCell (p := ⟨g, 3, none⟩) hg v3).setCell (p := ⟨g, 4, none⟩) hg v4).setCell (p := ⟨g, 5, none⟩) hg v5).setCell (p := ⟨g, 6, none⟩) hg v6).setCell (p := ⟨g, 7, none⟩) hg v7).setCell (p := ⟨g, 8, none⟩) hg v8
  · exact ((((((((hb.far (p := ⟨g, 0, none⟩) hk v0).far (p := ⟨g, 1, none⟩) hk v1).far (p := ⟨g, 2, none⟩) hk v2).far (p := ⟨g, 3, none⟩) hk v3).far (p := ⟨g, 4, none⟩) hk v4).far (p := ⟨g, 5, none⟩) hk v5).far (p := ⟨g, 6, none⟩) hk v6).far (p := ⟨g, 7, none⟩) hk v7).far (p := ⟨g, 8, none⟩) hk v8
  · exact hS.keep (ts := [82, 37, 123, 3]) (((((((((((KeepT.refl _ w).set (p := ⟨g, 0, none⟩) t0 hx v0).set (p := ⟨g, 1, none⟩) t1 hx v1).set (p := ⟨g, 2, none⟩) t2 hx v2).set (p := ⟨g, 3, none⟩) t3 hx v3).set (p := ⟨g, 4, none⟩) t4 hx v4).set (p := ⟨g, 5, none⟩) t5 hx v5).set (p := ⟨g, 6, none⟩) t6 hx v6).set (p := ⟨g, 7, none⟩) t7 hx v7).set (p := ⟨g, 8, none⟩) t8 hx v8)) (fun _ h => h)

theorem frozen_out (w : World) (i : Nat) : w.frozen? ⟨w.heap.size, i, none⟩ = false := by
  have e2 : w.heap[w.heap.size]? = none := by simp
  simp [World.frozen?, e2]
attribute [local go_sem] Go.RowKit.frozen?_alloc_cells frozen_out

/-- A part, its place out of a variable: all of its cells. -/
theorem IsParts.at9 {w : World} {A : Option Addr} {n c : Nat} {ps : List PartD} (h : IsParts w (.slice A n c) ps) (j : Nat) (hj : j < ps.length) :
    ∃ (b o : Nat) (s1 : Bool) (A1 : Option Addr) (n1 c1 : Nat) (s2 : Bool) (A2 : Option Addr) (n2 c2 : Nat) (s3 : Bool) (A3 : Option Addr) (n3 c3 : Nat), A = some ⟨b, o, none⟩ ∧ b < w.heap.size ∧ IsRat w (.bool s1) (.slice A1 n1 c1) (.bool s2) (.slice A2 n2 c2) (ps[j]).c ∧
      ∀ w', Ext w w' → w'.cell? ⟨b, o + j * 9, none⟩ = some (.string ⟨(ps[j]).name.toArray⟩) ∧ w'.cell? ⟨b, o + j * 9 + 1, none⟩ = some (.int .i64 (ps[j]).at_) ∧ w'.cell? ⟨b, o + j * 9 + 2, none⟩ = some (.bool s1) ∧ w'.cell? ⟨b, o + j * 9 + 3, none⟩ = some (.slice A1 n1 c1) ∧ w'.cell? ⟨b, o + j * 9 + 4, none⟩ = some (.bool s2) ∧ w'.cell? ⟨b, o + j * 9 + 5, none⟩ = some (.slice A2 n2 c2) ∧ w'.cell? ⟨b, o + j * 9 + 6, none⟩ = some (.bool (ps[j]).is) ∧ w'.cell? ⟨b, o + j * 9 + 7, none⟩ = some (.bool s3) ∧ w'.cell? ⟨b, o + j * 9 + 8, none⟩ = some (.slice A3 n3 c3) := by
  obtain ⟨ls, h1, h2⟩ := h
  have hj' : j < ls.length := by rw [h2.length]; exact hj
  obtain ⟨b, o, e, ht, hr⟩ := h1.row j hj'
  obtain ⟨s1, v1, s2, v2, s3, v3, hl, hq, hi⟩ := h2.get j _ _ (List.getElem?_eq_getElem hj') (List.getElem?_eq_getElem hj)
  obtain ⟨s1, A1, n1, c1, s2, A2, n2, c2, rfl, rfl, rfl, rfl⟩ := hq.form
  obtain ⟨s3, A3, n3, c3, rfl, rfl, -, -, -⟩ := hi.form
  refine ⟨b, o, s1, A1, n1, c1, s2, A2, n2, c2, s3, A3, n3, c3, e, ht.lt, hq, fun w' hw => ?_⟩
  have hr2 := hr w' (KeepT.ext hw)
  rw [hl] at hr2
  exact ⟨hr2 0 _ rfl, hr2 1 _ rfl, hr2 2 _ rfl, hr2 3 _ rfl, hr2 4 _ rfl, hr2 5 _ rfl, hr2 6 _ rfl, hr2 7 _ rfl, hr2 8 _ rfl⟩
theorem partsR_pos2 (k : Nat) : 1 ≤ (partsR k (4 * k + 1)).length := by
  rw [partsR_succ]
  have := partM_sq k 0 (by omega)
  rw [show 4 * k - 0 * 0 = 4 * k by omega] at this
  rw [this]
  simp

theorem Blk.cells9 {w : World} {g : Nat} {t : TypeId} {z0 z1 z2 z3 z4 z5 z6 z7 z8 : Value} (h : Blk w g t #[z0, z1, z2, z3, z4, z5, z6, z7, z8]) :
    w.cell? ⟨g, 0, none⟩ = some z0 ∧ w.cell? ⟨g, 1, none⟩ = some z1 ∧ w.cell? ⟨g, 2, none⟩ = some z2 ∧ w.cell? ⟨g, 3, none⟩ = some z3 ∧ w.cell? ⟨g, 4, none⟩ = some z4 ∧ w.cell? ⟨g, 5, none⟩ = some z5 ∧ w.cell? ⟨g, 6, none⟩ = some z6 ∧ w.cell? ⟨g, 7, none⟩ = some z7 ∧ w.cell? ⟨g, 8, none⟩ = some z8 ∧
      w.frozen? ⟨g, 0, none⟩ = false ∧ w.frozen? ⟨g, 1, none⟩ = false ∧ w.frozen? ⟨g, 2, none⟩ = false ∧ w.frozen? ⟨g, 3, none⟩ = false ∧ w.frozen? ⟨g, 4, none⟩ = false ∧ w.frozen? ⟨g, 5, none⟩ = false ∧ w.frozen? ⟨g, 6, none⟩ = false ∧ w.frozen? ⟨g, 7, none⟩ = false ∧ w.frozen? ⟨g, 8, none⟩ = false :=
  ⟨h.cell 0, h.cell 1, h.cell 2, h.cell 3, h.cell 4, h.cell 5, h.cell 6, h.cell 7, h.cell 8, h.frozen 0, h.frozen 1, h.frozen 2, h.frozen 3, h.frozen 4, h.frozen 5, h.frozen 6, h.frozen 7, h.frozen 8⟩

set_option maxRecDepth 100000 in
set_option maxHeartbeats 8000000 in
theorem lies_walk (hex : ∀ w, Tab w → Calls Tryz.prog 6 #[] w fun e w' => e = .returned (.bool true) ∧ Ext w w')
    (n j y : Int) (w : World) (ht : Tab w) (h1 : 0 ≤ n) (h2 : n ≤ 255) (h3 : 0 ≤ j) (h4 : j ≤ 255) (hy1 : -32768 ≤ y) (hy2 : y ≤ 32767) :
    Calls Tryz.prog 4 #[.int .u8 n, .int .u8 j, .int .i16 y] w fun e w' => e = .returned (.bool true) ∧ Ext w w' := by
  have HEX := Lib.hid (hex w ht)
  obtain ⟨k, hk, hk1, hk2⟩ : ∃ k : Nat, 1 + n % 60 = (k : Int) ∧ 1 ≤ k ∧ k ≤ 60 := ⟨(1 + n % 60).toNat, by omega, by omega, by omega⟩
  have HT := Lib.hid ht
  have HK := Lib.hid hk
  have HAU := Lib.hid (fun (w' : World) (h : Tab w') => AuditK_R k w' hk1 (by omega) h)
  have HPA := Lib.hid (fun (w' : World) => Parts38_any k w' hk1 (by omega))
  have hl0 := partsR_pos2 k
  have hl1 : (partsR k (4 * k + 1)).length ≤ 241 := by have := partsR_len k (4 * k + 1); omega
  have HPN := Lib.hid (parts_names k (4 * k + 1))
  have HAT := Lib.hid (fun (q : PartD) (hq : q ∈ partsR k (4 * k + 1)) => (show q.at_ = 0 ∧ q.is = false by obtain ⟨m, _, rfl⟩ := parts_mem hq; exact ⟨rfl, rfl⟩))
  have HTW := Lib.hid (fun (q : PartD) (hq : q ∈ partsR k (4 * k + 1)) => parts_tw hq)
  have HSH := Lib.hid (fun (q : PartD) (hq : q ∈ partsR k (4 * k + 1)) => parts_short (by omega) hq)
  have HEO := Lib.hid (fun (q : PartD) (hq : q ∈ partsR k (4 * k + 1)) => entR_ok (by omega) hq)
  have HNZ := Lib.hid (fun (q : PartD) (hq : q ∈ partsR k (4 * k + 1)) => parts_ne0 hq)
  have HST := Lib.hid (fun (hs : List HeldD) (h : hs.Perm ((partsR k (4 * k + 1)).map entR)) => sum_true hk1 hk2 h)
  have HTB2 := Lib.hid (fun (q : PartD) (hq : q ∈ partsR k (4 * k + 1)) => (show (twelve (numOf q)).natAbs ≤ 44000 by obtain ⟨m, hm, rfl⟩ := parts_mem hq; have := twelve_bd (n := ((numOf ⟨nameOf m, 0, mkRat (cnt (4 * k) m (2 * k) (4 * k + 1)) 12, false, 0⟩ : Nat) : Int)) (by omega) (by unfold numOf; rw [vOf_name]; omega); omega))
  have HTT := Lib.hid (show (tot k k).natAbs ≤ 1000000000 by have := tot_bd (n := (k : Int)) (by omega) k (by omega); omega)
  clear hex ht hk
  generalize partsR k (4 * k + 1) = ps at *
  generalize tot k k = TT at *
  go_enter Tryz.func4, Tryz.ntmps4
  go_wp2_with fail
  refine HEX.out.mono ?_
  rintro e w1 ⟨rfl, hE1⟩
  go_upto_region 5 with fail
  rw [HK.out]
  go_wp2_with fail
  refine (HAU.out w1 (HT.out.ext hE1)).mono ?_
  rintro e w2 ⟨av, a1, a2, a3, a4, rfl, hP, hQ, hE2⟩
  obtain ⟨A0, n0, rfl⟩ := hP.shape
  obtain ⟨s1, A1, n1, c1, s2, A2, n2, c2, rfl, rfl, rfl, rfl⟩ := hQ.form
  go_upto_region 6 with fail
  obtain ⟨w3, hw3⟩ : ∃ w3 : World, w3 = w2.alloc (.cells #[.slice A0 ps.length n0, .bool s1, .slice A1 n1 c1, .bool s2, .slice A2 n2 c2] 41) := ⟨_, rfl⟩
  rw [← hw3]
  have hE3 : Ext w w3 := by rw [hw3]; exact (hE1.trans hE2).alloc _
  have hE23 : Ext w2 w3 := by rw [hw3]; exact (Ext.refl _).alloc _
  have hBa : Blk w3 w2.heap.size 41 #[.slice A0 ps.length n0, .bool s1, .slice A1 n1 c1, .bool s2, .slice A2 n2 c2] := by rw [hw3]; exact Blk.newAt _ _ _ rfl
  have HBA := Lib.hid hBa
  have HP := Lib.hid (hP.ext hE23)
  have HQ := Lib.hid (hQ.ext hE23)
  clear hw3 hBa hE1 hE2 hE23 hP hQ HAU HEX HT
  generalize w2.heap.size = ga at *
  have f5 := HBA.out.five
  have hl0' : ¬ (ps.length : Int) = 0 := by omega
  have hl0'' : ((ps.length : Int) == 0) = false := beq_eq_false_iff_ne.2 (by omega)
  go_upto_region 8 with fail
  obtain ⟨x, hx, hxl⟩ : ∃ x : Nat, j % (ps.length : Int) = (x : Int) ∧ x < ps.length := by
    have a1 := Int.emod_nonneg j (show (ps.length : Int) ≠ 0 by omega)
    have a2 := Int.emod_lt_of_pos j (show (0 : Int) < (ps.length : Int) by omega)
    exact ⟨(j % (ps.length : Int)).toNat, by omega, by omega⟩
  have hx2 : j.tmod (ps.length : Int) = (x : Int) := by rw [Int.tmod_eq_emod_of_nonneg h3]; exact hx
  obtain ⟨b, o, x1, X1, e1, f1, x2, X2, e2, f2, x3, X3, e3, f3, rfl, hbw, hpc, hcell⟩ := HP.out.at9 x hxl
  have hmem := List.getElem_mem hxl
  generalize ps[x] = p at *
  obtain ⟨hat, his⟩ := HAT.out p hmem
  rw [hat, his] at hcell
  have HCE := Lib.hid hcell
  have HPC := Lib.hid hpc
  have HMEM := Lib.hid hmem
  clear hcell hpc hat his hmem f5
  obtain ⟨nm, hnm⟩ : ∃ nm, p.name = nm := ⟨_, rfl⟩
  rw [hnm] at HCE
  have HNM := Lib.hid hnm
  clear hnm
  have HKK : Hid (∀ w', Ext w3 w' → (w'.cell? ⟨ga, 0, none⟩ = some (.slice (some ⟨b, o, none⟩) ps.length n0) ∧ w'.cell? ⟨b, o + x * 9, none⟩ = some (.string ⟨nm.toArray⟩) ∧ w'.cell? ⟨b, o + x * 9 + 1, none⟩ = some (.int .i64 0) ∧ w'.cell? ⟨b, o + x * 9 + 2, none⟩ = some (.bool x1) ∧ w'.cell? ⟨b, o + x * 9 + 3, none⟩ = some (.slice X1 e1 f1) ∧ w'.cell? ⟨b, o + x * 9 + 4, none⟩ = some (.bool x2) ∧ w'.cell? ⟨b, o + x * 9 + 5, none⟩ = some (.slice X2 e2 f2) ∧ w'.cell? ⟨b, o + x * 9 + 6, none⟩ = some (.bool false) ∧ w'.cell? ⟨b, o + x * 9 + 7, none⟩ = some (.bool x3) ∧ w'.cell? ⟨b, o + x * 9 + 8, none⟩ = some (.slice X3 e3 f3))) := fun w' k => ⟨(HBA.out.ext k).cell 0, HCE.out w' k⟩
  have k3 := HKK.out w3 (Ext.refl _)
  have hxi : (x : Int) < (ps.length : Int) := by omega
  have hl3 : ps ≠ [] := by intro e; rw [e] at hl0; simp at hl0
  have hl4 : ¬ ps.length = 0 := by omega
  have hx0 : (0 : Int) ≤ (x : Int) := by omega
  have hwj : IntKind.i64.wrap j = j := IntWalk.i64_in _ (by omega)
  have hwx : IntKind.i64.wrap (x : Int) = (x : Int) := IntWalk.i64_in _ (by omega)
  have hwt : IntKind.i64.wrap (j.tmod (ps.length : Int)) = (x : Int) := by rw [hx2]; exact hwx
  have hxn : (x : Int).toNat = x := Int.toNat_natCast x
  have ha0 : ¬ (x : Int) < 0 := by omega
  have ha1 : ¬ (ps.length : Int) ≤ (x : Int) := by omega
  have ha2 : ¬ ps.length ≤ x := by omega
  have hE3' := Lib.hid (fun (w' : World) (k : Ext w3 w') => k)
  go_cut [11, 12] (fun p q wx => ∃ (gp gs : Nat) (As : Option Addr) (cs : Nat) (hs : List HeldD), p = .pointer (some ⟨gp, 0, none⟩) ∧ q = .pointer (some ⟨gs, 0, none⟩) ∧ Blk wx gp 45 #[.string ⟨nm.toArray⟩, .int .i64 0, .bool x1, .slice X1 e1 f1, .bool x2, .slice X2 e2 f2, .bool false, .bool x3, .slice X3 e3 f3] ∧ Blk wx gs 30 #[.slice As hs.length cs] ∧ hs.Perm (ps.map entR) ∧ IsShelf wx (.slice As hs.length cs) hs ∧ Ext w3 wx)
  case first =>
    go_region_held3 (fun w' => w'.cell? ⟨ga, 0, none⟩ = some (.slice (some ⟨b, o, none⟩) ps.length n0) ∧ w'.cell? ⟨b, o + x * 9, none⟩ = some (.string ⟨nm.toArray⟩) ∧ w'.cell? ⟨b, o + x * 9 + 1, none⟩ = some (.int .i64 0) ∧ w'.cell? ⟨b, o + x * 9 + 2, none⟩ = some (.bool x1) ∧ w'.cell? ⟨b, o + x * 9 + 3, none⟩ = some (.slice X1 e1 f1) ∧ w'.cell? ⟨b, o + x * 9 + 4, none⟩ = some (.bool x2) ∧ w'.cell? ⟨b, o + x * 9 + 5, none⟩ = some (.slice X2 e2 f2) ∧ w'.cell? ⟨b, o + x * 9 + 6, none⟩ = some (.bool false) ∧ w'.cell? ⟨b, o + x * 9 + 7, none⟩ = some (.bool x3) ∧ w'.cell? ⟨b, o + x * 9 + 8, none⟩ = some (.slice X3 e3 f3))
      (first | (refine HKK.out _ ?_; (repeat (first | with_reducible assumption | with_reducible exact Ext.refl _ | with_reducible refine Ext.drew ?_ | with_reducible refine Ext.drewN ?_ _ | with_reducible refine Ext.alloc ?_ _ | with_reducible refine Ext.set2 ?_ (by omega) _ _ | with_reducible refine Ext.setCell ?_ (by first | omega | (simp; done) | (simp; omega)) _ | with_reducible refine Ext.trans ?_ (by with_reducible assumption))); done))
      (first | (go_at_call 18; (with_reducible refine (HPA.out _).mono ?_); rintro e w4 ⟨sv, hs, rfl, hpm, hS4, hE4⟩; obtain ⟨As, cs, rfl⟩ := hS4.shape; have hs4 := (show Ext w3 w4 by (repeat (first | with_reducible assumption | with_reducible exact Ext.refl _ | with_reducible refine Ext.drew ?_ | with_reducible refine Ext.drewN ?_ _ | with_reducible refine Ext.alloc ?_ _ | with_reducible refine Ext.set2 ?_ (by omega) _ _ | with_reducible refine Ext.setCell ?_ (by first | omega | (simp; done) | (simp; omega)) _ | with_reducible refine Ext.trans ?_ (by with_reducible assumption)))).size'; (try ((refine mp_of (p := Blk w4 w3.heap.size 45 #[.string ⟨#[]⟩, .int .i64 0, .bool false, .slice none 0 0, .bool false, .slice none 0 0, .bool false, .bool false, .slice none 0 0]) ?_ ?_); (focus (refine Blk.ext ?_ hE4; (repeat (first | with_reducible assumption | with_reducible exact Blk.newAt _ _ _ (by first | rfl | (simp; done) | (simp; omega)) | with_reducible refine Blk.alloc ?_ _ | with_reducible refine Blk.set2 (x := .bool false) (y := .slice none 0 0) ?_ _ _ | with_reducible refine Blk.far2 ?_ (by omega) _ _ | with_reducible refine Blk.drew ?_ | with_reducible refine Blk.ext ?_ (by with_reducible assumption))); done)); intro hp0; have nhp0 := And.intro hp0.lt (Blk.cells9 hp0))); (try ((refine mp_of (p := Blk w4 (w3.heap.size + 1) 45 #[.string ⟨#[]⟩, .int .i64 0, .bool false, .slice none 0 0, .bool false, .slice none 0 0, .bool false, .bool false, .slice none 0 0]) ?_ ?_); (focus (refine Blk.ext ?_ hE4; (repeat (first | with_reducible assumption | with_reducible exact Blk.newAt _ _ _ (by first | rfl | (simp; done) | (simp; omega)) | with_reducible refine Blk.alloc ?_ _ | with_reducible refine Blk.set2 (x := .bool false) (y := .slice none 0 0) ?_ _ _ | with_reducible refine Blk.far2 ?_ (by omega) _ _ | with_reducible refine Blk.drew ?_ | with_reducible refine Blk.ext ?_ (by with_reducible assumption))); done)); intro hp1; have nhp1 := And.intro hp1.lt (Blk.cells9 hp1))); (try ((refine mp_of (p := Blk w4 w3.heap.size 30 #[.slice none 0 0]) ?_ ?_); (focus (refine Blk.ext ?_ hE4; (repeat (first | with_reducible assumption | with_reducible exact Blk.newAt _ _ _ (by first | rfl | (simp; done) | (simp; omega)) | with_reducible refine Blk.alloc ?_ _ | with_reducible refine Blk.set2 (x := .bool false) (y := .slice none 0 0) ?_ _ _ | with_reducible refine Blk.far2 ?_ (by omega) _ _ | with_reducible refine Blk.drew ?_ | with_reducible refine Blk.ext ?_ (by with_reducible assumption))); done)); intro hs0; have nhs0 := (And.intro hs0.lt (And.intro (hs0.cell 0) (hs0.frozen 0))))); (try ((refine mp_of (p := Blk w4 (w3.heap.size + 1) 30 #[.slice none 0 0]) ?_ ?_); (focus (refine Blk.ext ?_ hE4; (repeat (first | with_reducible assumption | with_reducible exact Blk.newAt _ _ _ (by first | rfl | (simp; done) | (simp; omega)) | with_reducible refine Blk.alloc ?_ _ | with_reducible refine Blk.set2 (x := .bool false) (y := .slice none 0 0) ?_ _ _ | with_reducible refine Blk.far2 ?_ (by omega) _ _ | with_reducible refine Blk.drew ?_ | with_reducible refine Blk.ext ?_ (by with_reducible assumption))); done)); intro hs1; have nhs1 := (And.intro hs1.lt (And.intro (hs1.cell 0) (hs1.frozen 0)))))))
    all_goals
      go_wp2_with fail
      go_meet
    · exact ⟨_, _, As, cs, hs, rfl, rfl, (Blk.newAt _ _ _ rfl).alloc _, Blk.newAt _ _ _ (by simp), hpm, hS4.ext (((Ext.refl _).alloc _).alloc _), (hE3'.out w4 (by (repeat (first | with_reducible assumption | with_reducible exact Ext.refl _ | with_reducible refine Ext.drew ?_ | with_reducible refine Ext.drewN ?_ _ | with_reducible refine Ext.alloc ?_ _ | with_reducible refine Ext.set2 ?_ (by omega) _ _ | with_reducible refine Ext.setCell ?_ (by first | omega | (simp; done) | (simp; omega)) _ | with_reducible refine Ext.trans ?_ (by with_reducible assumption))))).alloc _ |>.alloc _⟩
    · exact ⟨_, _, As, cs, hs, rfl, rfl, Blk.newAt _ _ _ (by simp), (Blk.newAt _ _ _ rfl).alloc _, hpm, hS4.ext (((Ext.refl _).alloc _).alloc _), (hE3'.out w4 (by (repeat (first | with_reducible assumption | with_reducible exact Ext.refl _ | with_reducible refine Ext.drew ?_ | with_reducible refine Ext.drewN ?_ _ | with_reducible refine Ext.alloc ?_ _ | with_reducible refine Ext.set2 ?_ (by omega) _ _ | with_reducible refine Ext.setCell ?_ (by first | omega | (simp; done) | (simp; omega)) _ | with_reducible refine Ext.trans ?_ (by with_reducible assumption))))).alloc _ |>.alloc _⟩
    · have P := put9 hp0 (hE3'.out w4 (by (repeat (first | with_reducible assumption | with_reducible exact Ext.refl _ | with_reducible refine Ext.drew ?_ | with_reducible refine Ext.drewN ?_ _ | with_reducible refine Ext.alloc ?_ _ | with_reducible refine Ext.set2 ?_ (by omega) _ _ | with_reducible refine Ext.setCell ?_ (by first | omega | (simp; done) | (simp; omega)) _ | with_reducible refine Ext.trans ?_ (by with_reducible assumption))))) (Nat.le_refl _) (.string ⟨nm.toArray⟩) (.int .i64 0) (.bool x1) (.slice X1 e1 f1) (.bool x2) (.slice X2 e2 f2) (.bool false) (.bool x3) (.slice X3 e3 f3)
      exact ⟨_, _, As, cs, hs, rfl, rfl, P.1.alloc _, Blk.newAt _ _ _ P.2.2.2.2, hpm, (P.2.2.2.1 _ _ hS4).ext ((Ext.refl _).alloc _), P.2.1.alloc _⟩
    · have P := put9 hp0 (hE3'.out w4 (by (repeat (first | with_reducible assumption | with_reducible exact Ext.refl _ | with_reducible refine Ext.drew ?_ | with_reducible refine Ext.drewN ?_ _ | with_reducible refine Ext.alloc ?_ _ | with_reducible refine Ext.set2 ?_ (by omega) _ _ | with_reducible refine Ext.setCell ?_ (by first | omega | (simp; done) | (simp; omega)) _ | with_reducible refine Ext.trans ?_ (by with_reducible assumption))))) (Nat.le_refl _) (.string ⟨nm.toArray⟩) (.int .i64 0) (.bool x1) (.slice X1 e1 f1) (.bool x2) (.slice X2 e2 f2) (.bool false) (.bool x3) (.slice X3 e3 f3)
      have Q := P.2.2.1 _ _ _ (Nat.succ_ne_self _) hs1
      exact ⟨_, _, As, cs, hs, rfl, rfl, P.1.far (p := ⟨w3.heap.size + 1, 0, none⟩) (by show w3.heap.size ≠ w3.heap.size + 1; omega) _, Q.set_ 0 _, hpm, (P.2.2.2.1 _ _ hS4).keep (ts := [82, 37, 123, 3]) ((KeepT.refl _ _).set (p := ⟨w3.heap.size + 1, 0, none⟩) Q.type (by decide) _) (fun _ h => h), P.2.1.setCell (by show w3.heap.size ≤ w3.heap.size + 1; omega) _⟩
    · exact ⟨_, _, As, cs, hs, rfl, rfl, Blk.newAt _ _ _ (by simp [World.setCell]), (hs0.set_ 0 _).alloc _, hpm, (hS4.keep (ts := [82, 37, 123, 3]) ((KeepT.refl _ _).set (p := ⟨w3.heap.size, 0, none⟩) hs0.type (by decide) _) (fun _ h => h)).ext ((Ext.refl _).alloc _), ((hE3'.out w4 (by (repeat (first | with_reducible assumption | with_reducible exact Ext.refl _ | with_reducible refine Ext.drew ?_ | with_reducible refine Ext.drewN ?_ _ | with_reducible refine Ext.alloc ?_ _ | with_reducible refine Ext.set2 ?_ (by omega) _ _ | with_reducible refine Ext.setCell ?_ (by first | omega | (simp; done) | (simp; omega)) _ | with_reducible refine Ext.trans ?_ (by with_reducible assumption))))).setCell (Nat.le_refl _) _).alloc _⟩
    · have P := put9 hp1 (hE3'.out w4 (by (repeat (first | with_reducible assumption | with_reducible exact Ext.refl _ | with_reducible refine Ext.drew ?_ | with_reducible refine Ext.drewN ?_ _ | with_reducible refine Ext.alloc ?_ _ | with_reducible refine Ext.set2 ?_ (by omega) _ _ | with_reducible refine Ext.setCell ?_ (by first | omega | (simp; done) | (simp; omega)) _ | with_reducible refine Ext.trans ?_ (by with_reducible assumption))))) (Nat.le_succ _) (.string ⟨nm.toArray⟩) (.int .i64 0) (.bool x1) (.slice X1 e1 f1) (.bool x2) (.slice X2 e2 f2) (.bool false) (.bool x3) (.slice X3 e3 f3)
      have Q := P.2.2.1 _ _ _ (Nat.ne_of_lt (Nat.lt_succ_self _)) hs0
      exact ⟨_, _, As, cs, hs, rfl, rfl, P.1.far (p := ⟨w3.heap.size, 0, none⟩) (by show w3.heap.size + 1 ≠ w3.heap.size; omega) _, Q.set_ 0 _, hpm, (P.2.2.2.1 _ _ hS4).keep (ts := [82, 37, 123, 3]) ((KeepT.refl _ _).set (p := ⟨w3.heap.size, 0, none⟩) Q.type (by decide) _) (fun _ h => h), P.2.1.setCell (Nat.le_refl _) _⟩
  case rest =>
    obtain ⟨gp, gs, As, cs, hs, rfl, rfl, hBp, hBs, hpm, hS, hEc⟩ := hcut
    have hhl : hs.length = ps.length := by have := hpm.length_eq; rwa [List.length_map] at this
    have hhs : hs.length ≤ 100000 := by omega
    have HHL := Lib.hid hhl
    clear hhl
    have HPM := Lib.hid hpm
    have HOKH := Lib.hid (fun (h : HeldD) (hh : h ∈ hs) => (show HeldOk h by obtain ⟨q, hq, rfl⟩ := List.mem_map.1 (hpm.mem_iff.1 hh); exact HEO.out q hq))
    have HBE := Lib.hid (BestK_any _ _ nm hs [] wc hhs (by simp) (fun h hh => (HOKH.out h hh).2.1) hS (IsNums.nil _))
    have HBO := Lib.hid (show best hs nm [] = some (entR p) by rw [← HNM.out]; exact best_ent HPM.out HPN.out HMEM.out [])
    rw [HBO.out] at HBE
    have g8 := hBs.cell 0
    have p8 := hBp.cell 0
    have HS := Lib.hid hS
    have HBP := Lib.hid hBp
    have HBS := Lib.hid hBs
    have HBA5 := Lib.hid (HBA.out.ext hEc)
    have HP5 := Lib.hid (HP.out.ext hEc)
    have HQ5 := Lib.hid (HQ.out.ext hEc)
    have HPC5 := Lib.hid (HPC.out.ext hEc)
    have HEW := Lib.hid (hE3.trans hEc)
    clear hS hBp hBs hpm hEc HBA HP HQ HPC HCE HKK k3 HPA hE3 hE3' hx hx2 hxl hbw hwx hwt hxn ha0 ha1 ha2 hx0 hl3 hl4 hxi
    go_wp2_with fail
    refine HBE.out.mono ?_
    rintro e wd ⟨es, rfl, hel, heo, hex, hEd⟩
    have rs := run_store_entry (wd.alloc (.cells entry0.toArray 77)) wd.heap.size 0 es hel ((Blk.newAt wd 77 entry0.toArray rfl).there rfl) heo
    unfold entry0 at rs
    go_upto_region 10 with fail
    change Code.wp _ _ _ _ ((wd.alloc (.cells entry0.toArray 77)).setCells wd.heap.size 0 es)
    obtain ⟨we, hwe⟩ : ∃ we : World, we = (wd.alloc (.cells entry0.toArray 77)).setCells wd.heap.size 0 es := ⟨_, rfl⟩
    rw [← hwe]
    have hEde : Ext wd we := by rw [hwe]; exact ((Ext.refl wd).alloc _).setCells es (Nat.le_refl _) 0
    have hBe : Blk we wd.heap.size 77 es.toArray := by rw [hwe]; exact (Blk.newAt wd 77 entry0.toArray rfl).setAll hel
    have hEce := hEd.trans hEde
    obtain ⟨-, -, -, ⟨V, hV1, hV2⟩, -⟩ := hex (entR p) rfl
    have hV3 : IsInts we V [twelve (numOf p)] := hV2.keep (ts := [37, 123]) (KeepT.ext hEde) (fun _ h => h)
    obtain ⟨lv, hR, hA⟩ := hV3
    obtain ⟨B, d, rfl⟩ := hR.shape
    have hlv : lv.length = 1 := hA.length
    have hkl : 0 < lv.length := by omega
    obtain ⟨b2, o2, rfl, hb2, hrow⟩ := hR.row 0 hkl
    obtain ⟨bx, ux, hlk, hix⟩ := hA.get 0 _ _ (List.getElem?_eq_getElem hkl) (show [twelve (numOf p)][0]? = some (twelve (numOf p)) from rfl)
    obtain ⟨s8, A8, n8, c8, rfl, rfl, -, -, -⟩ := hix.form
    rw [hlv] at hV1
    have hcv : ∀ (w' : World) (k : Ext we w'), w'.cell? ⟨b2, o2, none⟩ = some (.bool s8) ∧ w'.cell? ⟨b2, o2 + 1, none⟩ = some (.slice A8 n8 c8) := fun (w' : World) (k : Ext we w') => (by
      have hr := hrow w' (KeepT.ext k)
      rw [hlk] at hr
      have r0 := hr 0 _ rfl
      have r1 := hr 1 _ rfl
      simp only [Nat.zero_mul, Nat.add_zero] at r0 r1
      exact ⟨r0, r1⟩)
    have e1' : we.cell? ⟨wd.heap.size, 1, none⟩ = some (.slice (some ⟨b2, o2, none⟩) 1 d) := (hBe.cell 1).trans (by simpa using hV1)
    have HIX := Lib.hid hix
    have HKE := Lib.hid (fun (w' : World) (k : Ext we w') => And.intro ((HBP.out.ext (hEce.trans k)).cell 0) (And.intro (((hBe.ext k).cell 1).trans (show _ = some (Value.slice (some ⟨b2, o2, none⟩) 1 d) by simpa using hV1)) (hcv w' k)))
    have HEce := Lib.hid hEce
    clear hwe hEde hEce hex hV1 hV2 hR hA hlv hkl hrow hlk hix hBe rs g8 p8 HBE hel heo hEd hcv HBO
    generalize wd.heap.size = ge at *
    obtain ⟨tv, htve⟩ : ∃ tv : Int, twelve (numOf p) = tv := ⟨_, rfl⟩
    have htv : tv.natAbs ≤ 1000000000 := by rw [← htve]; exact (HEO.out p HMEM.out).2.2 _ (by simp [entR])
    rw [htve] at HIX
    have HTV := Lib.hid htve
    clear htve
    have HOF := Lib.hid (fun (w' : World) => Of1_any y w' (by omega) (by omega))
    have HAD := Lib.hid (fun (w' : World) (b v : Value) (k : Ext we w') (h : IsInt w' b v y) => iAdd1_any _ _ b v tv y w' (by have := wordsOf_len2 (m := tv.natAbs) (by omega); omega) (by have := wordsOf_len2 (m := y.natAbs) (by omega); omega) (HIX.out.ext k) h)
    have rb := fun w' A n c => run_build_two w' nm A n c
    have hwy : IntKind.i64.wrap y = y := IntWalk.i64_in _ (by omega)
    have HTB := Lib.hid htv
    clear htv
    go_upto_region 12 with fail
    have k3 := HKE.out we (Ext.refl _)
    have HREF := Lib.hid (fun (w' : World) (k : Ext we w') => k)
    go_cut [15] (fun p wx => ∃ (g gi : Nat), p = .pointer (some ⟨g, 0, none⟩) ∧ Blk wx g 77 (entry2 nm (some ⟨gi, 0, none⟩) 1 1).toArray ∧ IsEntry wx (entry2 nm (some ⟨gi, 0, none⟩) 1 1) ⟨nm, [tv + y], []⟩ ∧ Ext we wx)
    case first =>
      go_region_held3 (fun w' => w'.cell? ⟨gp, 0, none⟩ = some (.string ⟨nm.toArray⟩) ∧ w'.cell? ⟨ge, 1, none⟩ = some (.slice (some ⟨b2, o2, none⟩) 1 d) ∧ w'.cell? ⟨b2, o2, none⟩ = some (.bool s8) ∧ w'.cell? ⟨b2, o2 + 1, none⟩ = some (.slice A8 n8 c8))
        (first | (refine HKE.out _ ?_; (repeat (first | with_reducible assumption | with_reducible exact Ext.refl _ | with_reducible refine Ext.drew ?_ | with_reducible refine Ext.drewN ?_ _ | with_reducible refine Ext.alloc ?_ _ | with_reducible refine Ext.set2 ?_ (by omega) _ _ | with_reducible refine Ext.setCell ?_ (by first | omega | (simp; done) | (simp; omega)) _ | with_reducible refine Ext.trans ?_ (by with_reducible assumption))); done) | (refine HKE.out _ (Ext.setCells _ ?q1 ?q2 0); (case q2 => (first | exact Nat.le_refl _ | omega)); (case q1 => (repeat (first | with_reducible assumption | with_reducible exact Ext.refl _ | with_reducible refine Ext.drew ?_ | with_reducible refine Ext.drewN ?_ _ | with_reducible refine Ext.alloc ?_ _ | with_reducible refine Ext.set2 ?_ (by omega) _ _ | with_reducible refine Ext.setCell ?_ (by first | omega | (simp; done) | (simp; omega)) _ | with_reducible refine Ext.trans ?_ (by with_reducible assumption))))))
        (first | (go_at_call 12; (with_reducible refine (HOF.out _).mono ?_); rintro e w5 ⟨s5, A5, n5, c5, rfl, hq5, hE5⟩; have hs5 := (show Ext we w5 by (repeat (first | with_reducible assumption | with_reducible exact Ext.refl _ | with_reducible refine Ext.drew ?_ | with_reducible refine Ext.drewN ?_ _ | with_reducible refine Ext.alloc ?_ _ | with_reducible refine Ext.set2 ?_ (by omega) _ _ | with_reducible refine Ext.setCell ?_ (by first | omega | (simp; done) | (simp; omega)) _ | with_reducible refine Ext.trans ?_ (by with_reducible assumption)))).size') | (go_at_call 20; (with_reducible refine (HAD.out _ _ _ ?q1 ?q2).mono ?_); (case q1 => (repeat (first | with_reducible assumption | with_reducible exact Ext.refl _ | with_reducible refine Ext.drew ?_ | with_reducible refine Ext.drewN ?_ _ | with_reducible refine Ext.alloc ?_ _ | with_reducible refine Ext.set2 ?_ (by omega) _ _ | with_reducible refine Ext.setCell ?_ (by first | omega | (simp; done) | (simp; omega)) _ | with_reducible refine Ext.trans ?_ (by with_reducible assumption)))); (case q2 => (refine IsInt.ext hq5 ?_; (repeat (first | with_reducible assumption | with_reducible exact Ext.refl _ | with_reducible refine Ext.drew ?_ | with_reducible refine Ext.drewN ?_ _ | with_reducible refine Ext.alloc ?_ _ | with_reducible refine Ext.set2 ?_ (by omega) _ _ | with_reducible refine Ext.setCell ?_ (by first | omega | (simp; done) | (simp; omega)) _ | with_reducible refine Ext.trans ?_ (by with_reducible assumption))))); rintro e w6 ⟨s6, A6, n6, c6, rfl, hq6, hE6⟩; have hE06 := HREF.out w6 (by (repeat (first | with_reducible assumption | with_reducible exact Ext.refl _ | with_reducible refine Ext.drew ?_ | with_reducible refine Ext.drewN ?_ _ | with_reducible refine Ext.alloc ?_ _ | with_reducible refine Ext.set2 ?_ (by omega) _ _ | with_reducible refine Ext.setCell ?_ (by first | omega | (simp; done) | (simp; omega)) _ | with_reducible refine Ext.trans ?_ (by with_reducible assumption)))); have hs6 := hE06.size'; have rsC := run_store_entry ((w6.alloc (.cells entry0.toArray 77)).alloc (.cells #[.bool s6, .slice A6 n6 c6] 37)) w6.heap.size 0 (entry2 nm (some ⟨w6.heap.size + 1, 0, none⟩) 1 1) rfl (((Blk.newAt w6 77 entry0.toArray rfl).alloc _).there rfl) (entry2_one _ _ _ _); unfold entry0 at rsC; have rsD := run_store_entry ((w6.alloc (.cells #[.bool s6, .slice A6 n6 c6] 37)).alloc (.cells entry0.toArray 77)) (w6.heap.size + 1) 0 (entry2 nm (some ⟨w6.heap.size, 0, none⟩) 1 1) rfl ((Blk.newAt _ 77 entry0.toArray (by simp)).there rfl) (entry2_one _ _ _ _); unfold entry0 at rsD; (try ((refine mp_of (p := Blk w6 we.heap.size 77 entry0.toArray) ?_ ?_); (focus (unfold entry0; refine Blk.ext ?_ hE6; (repeat (first | with_reducible assumption | with_reducible exact Blk.newAt _ _ _ (by first | rfl | (simp; done) | (simp; omega)) | with_reducible refine Blk.alloc ?_ _ | with_reducible refine Blk.set2 (x := .bool false) (y := .slice none 0 0) ?_ _ _ | with_reducible refine Blk.far2 ?_ (by omega) _ _ | with_reducible refine Blk.drew ?_ | with_reducible refine Blk.ext ?_ (by with_reducible assumption))); done)); intro hbA; have rsA := run_store_entry (w6.alloc (.cells #[.bool s6, .slice A6 n6 c6] 37)) we.heap.size 0 (entry2 nm (some ⟨w6.heap.size, 0, none⟩) 1 1) rfl ((hbA.alloc _).there rfl) (entry2_one _ _ _ _))); (try ((refine mp_of (p := Blk w6 w5.heap.size 77 entry0.toArray) ?_ ?_); (focus (unfold entry0; refine Blk.ext ?_ hE6; (repeat (first | with_reducible assumption | with_reducible exact Blk.newAt _ _ _ (by first | rfl | (simp; done) | (simp; omega)) | with_reducible refine Blk.alloc ?_ _ | with_reducible refine Blk.set2 (x := .bool false) (y := .slice none 0 0) ?_ _ _ | with_reducible refine Blk.far2 ?_ (by omega) _ _ | with_reducible refine Blk.drew ?_ | with_reducible refine Blk.ext ?_ (by with_reducible assumption))); done)); intro hbB; have rsB := run_store_entry (w6.alloc (.cells #[.bool s6, .slice A6 n6 c6] 37)) w5.heap.size 0 (entry2 nm (some ⟨w6.heap.size, 0, none⟩) 1 1) rfl ((hbB.alloc _).there rfl) (entry2_one _ _ _ _)))))
      all_goals
        go_wp2_with fail
        go_meet
      · have L := laid_entry (nm := nm) (Blk.newAt (w6.alloc (.cells #[.bool s6, .slice A6 n6 c6] 37)) 77 entry0.toArray (g := w6.heap.size + 1) (by simp)) ((Blk.newAt w6 37 #[.bool s6, .slice A6 n6 c6] rfl).alloc _) ((hq6.alloc _).alloc _) ((hE06.alloc _).alloc _) (by omega)
        exact ⟨_, _, rfl, L⟩
      · have L := laid_entry (nm := nm) ((Blk.newAt w6 77 entry0.toArray rfl).alloc _) (Blk.newAt (w6.alloc (.cells entry0.toArray 77)) 37 #[.bool s6, .slice A6 n6 c6] (g := w6.heap.size + 1) (by simp)) ((hq6.alloc _).alloc _) ((hE06.alloc _).alloc _) hs6
        exact ⟨_, _, rfl, L⟩
      · have L := laid_entry (nm := nm) (hbB.alloc (.cells #[.bool s6, .slice A6 n6 c6] 37)) (Blk.newAt w6 37 #[.bool s6, .slice A6 n6 c6] rfl) (hq6.alloc _) (hE06.alloc _) hs5
        exact ⟨_, _, rfl, L⟩
      · have L := laid_entry (nm := nm) (hbA.alloc (.cells #[.bool s6, .slice A6 n6 c6] 37)) (Blk.newAt w6 37 #[.bool s6, .slice A6 n6 c6] rfl) (hq6.alloc _) (hE06.alloc _) (Nat.le_refl _)
        exact ⟨_, _, rfl, L⟩
    case rest =>
      obtain ⟨gl, gi, rfl, hBl, hIE, hEc⟩ := hcut
      have hEx := HEce.out.trans hEc
      have HS13 := Lib.hid (HS.out.ext hEx)
      have HBP13 := Lib.hid (HBP.out.ext hEx)
      have HBS13 := Lib.hid (HBS.out.ext hEx)
      have HBA13 := Lib.hid (HBA5.out.ext hEx)
      have HP13 := Lib.hid (HP5.out.ext hEx)
      have HQ13 := Lib.hid (HQ5.out.ext hEx)
      have HPC13 := Lib.hid (HPC5.out.ext hEx)
      have HE13 := Lib.hid (HEW.out.trans hEx)
      have HIE := Lib.hid hIE
      have HBL := Lib.hid hBl
      clear hEx hIE hBl hEc k3 rb HREF HKE HIX HOF HAD e1' hwy
      have hll : (lackOf hs nm).length ≤ 100000 := Nat.le_trans (List.length_filter_le _ _) hhs
      obtain ⟨ev, hev⟩ : ∃ ev, entry2 nm (some ⟨gi, 0, none⟩) 1 1 = ev := ⟨_, rfl⟩
      have hel : ev.length = 31 := by rw [← hev]; rfl
      rw [hev] at HIE HBL
      clear hev
      have HKF := Lib.hid (fun (w' : World) (k : Ext wc w') => And.intro ((HBS13.out.ext k).cell 0) (And.intro ((HBP13.out.ext k).cell 0) (run_load_entry w' gl 0 ev hel (HBL.out.ext k).range)))
      have HDR := Lib.hid (fun (w' : World) (k : Ext wc w') => DropK_any _ nm hs w' hhs (HS13.out.ext k))
      have HAD2 := Lib.hid (fun (w' : World) (v : Value) (k : Ext wc w') (h : IsShelf w' v (lackOf hs nm)) => AddM_any v ev 0 2 0 (lackOf hs nm) ⟨nm, [tv + y], []⟩ w' hll (lack_ne hs nm) h (HIE.out.ext k))
      have HREF := Lib.hid (fun (w' : World) (k : Ext wc w') => k)
      have k3 := HKF.out wc (Ext.refl _)
      go_upto_region 13 with fail
      go_cut [16] (fun p wx => ∃ (g : Nat) (A : Option Addr) (c : Nat) (hs7 : List HeldD) (kk : Nat), p = .pointer (some ⟨g, 0, none⟩) ∧ Blk wx g 30 #[.slice A hs7.length c] ∧ IsShelf wx (.slice A hs7.length c) hs7 ∧ (lackOf hs nm).take kk ++ ⟨nm, [tv + y], []⟩ :: (lackOf hs nm).drop kk = hs7 ∧ Ext wc wx)
      case first =>
        go_region_held3 (fun w' => w'.cell? ⟨gs, 0, none⟩ = some (.slice As hs.length cs) ∧ w'.cell? ⟨gp, 0, none⟩ = some (.string ⟨nm.toArray⟩) ∧ (bigLoad 77 (.pointer (some ⟨gl, 0, none⟩))).run Tryz.prog w' = .ok (.agg ev.toArray) w')
          (first | (refine HKF.out _ ?_; (repeat (first | with_reducible assumption | with_reducible exact Ext.refl _ | with_reducible refine Ext.drew ?_ | with_reducible refine Ext.drewN ?_ _ | with_reducible refine Ext.alloc ?_ _ | with_reducible refine Ext.set2 ?_ (by omega) _ _ | with_reducible refine Ext.setCell ?_ (by first | omega | (simp; done) | (simp; omega)) _ | with_reducible refine Ext.trans ?_ (by with_reducible assumption))); done))
          (first | (go_at_call 21; (with_reducible refine (HDR.out _ ?q1).mono ?_); (case q1 => (repeat (first | with_reducible assumption | with_reducible exact Ext.refl _ | with_reducible refine Ext.drew ?_ | with_reducible refine Ext.drewN ?_ _ | with_reducible refine Ext.alloc ?_ _ | with_reducible refine Ext.set2 ?_ (by omega) _ _ | with_reducible refine Ext.setCell ?_ (by first | omega | (simp; done) | (simp; omega)) _ | with_reducible refine Ext.trans ?_ (by with_reducible assumption)))); rintro e w7 ⟨lv, rfl, hE7, hL7⟩; change IsShelf w7 lv (lackOf hs nm) at hL7; obtain ⟨Al, cl, rfl⟩ := hL7.shape; have hs7 := (HREF.out w7 (by (repeat (first | with_reducible assumption | with_reducible exact Ext.refl _ | with_reducible refine Ext.drew ?_ | with_reducible refine Ext.drewN ?_ _ | with_reducible refine Ext.alloc ?_ _ | with_reducible refine Ext.set2 ?_ (by omega) _ _ | with_reducible refine Ext.setCell ?_ (by first | omega | (simp; done) | (simp; omega)) _ | with_reducible refine Ext.trans ?_ (by with_reducible assumption))))).size') | (go_at_call 11; (with_reducible refine (HAD2.out _ _ ?q1 ?q2).mono ?_); (case q1 => (repeat (first | with_reducible assumption | with_reducible exact Ext.refl _ | with_reducible refine Ext.drew ?_ | with_reducible refine Ext.drewN ?_ _ | with_reducible refine Ext.alloc ?_ _ | with_reducible refine Ext.set2 ?_ (by omega) _ _ | with_reducible refine Ext.setCell ?_ (by first | omega | (simp; done) | (simp; omega)) _ | with_reducible refine Ext.trans ?_ (by with_reducible assumption)))); (case q2 => (refine IsShelf.ext hL7 ?_; (repeat (first | with_reducible assumption | with_reducible exact Ext.refl _ | with_reducible refine Ext.drew ?_ | with_reducible refine Ext.drewN ?_ _ | with_reducible refine Ext.alloc ?_ _ | with_reducible refine Ext.set2 ?_ (by omega) _ _ | with_reducible refine Ext.setCell ?_ (by first | omega | (simp; done) | (simp; omega)) _ | with_reducible refine Ext.trans ?_ (by with_reducible assumption))))); rintro e w8 ⟨v8, kk, rfl, hkk, hS8, hE8⟩; obtain ⟨ht, hht⟩ : ∃ x : List HeldD, (lackOf hs nm).take kk ++ ⟨nm, [tv + y], []⟩ :: (lackOf hs nm).drop kk = x := ⟨_, rfl⟩; rw [hht] at hS8; have HHT := Lib.hid hht; clear hht; obtain ⟨At, ct, rfl⟩ := hS8.shape; (try ((refine mp_of (p := Blk w8 wc.heap.size 30 #[.slice none 0 0]) ?_ ?_); (focus (refine Blk.ext ?_ hE8; (repeat (first | with_reducible assumption | with_reducible exact Blk.newAt _ _ _ (by first | rfl | (simp; done) | (simp; omega)) | with_reducible refine Blk.alloc ?_ _ | with_reducible refine Blk.set2 (x := .bool false) (y := .slice none 0 0) ?_ _ _ | with_reducible refine Blk.far2 ?_ (by omega) _ _ | with_reducible refine Blk.drew ?_ | with_reducible refine Blk.ext ?_ (by with_reducible assumption))); done)); intro hbA; have nA := (And.intro hbA.lt (And.intro (hbA.cell 0) (hbA.frozen 0))))); (try ((refine mp_of (p := Blk w8 w7.heap.size 30 #[.slice none 0 0]) ?_ ?_); (focus (refine Blk.ext ?_ hE8; (repeat (first | with_reducible assumption | with_reducible exact Blk.newAt _ _ _ (by first | rfl | (simp; done) | (simp; omega)) | with_reducible refine Blk.alloc ?_ _ | with_reducible refine Blk.set2 (x := .bool false) (y := .slice none 0 0) ?_ _ _ | with_reducible refine Blk.far2 ?_ (by omega) _ _ | with_reducible refine Blk.drew ?_ | with_reducible refine Blk.ext ?_ (by with_reducible assumption))); done)); intro hbB; have nB := (And.intro hbB.lt (And.intro (hbB.cell 0) (hbB.frozen 0)))))))
        all_goals
          go_wp2_with fail
          go_meet
          have hE08 := HREF.out w8 (by (repeat (first | with_reducible assumption | with_reducible exact Ext.refl _ | with_reducible refine Ext.drew ?_ | with_reducible refine Ext.drewN ?_ _ | with_reducible refine Ext.alloc ?_ _ | with_reducible refine Ext.set2 ?_ (by omega) _ _ | with_reducible refine Ext.setCell ?_ (by first | omega | (simp; done) | (simp; omega)) _ | with_reducible refine Ext.trans ?_ (by with_reducible assumption))))
          first
            | exact ⟨_, At, ct, ht, kk, rfl, hbA.set_ 0 _, hS8.keep (ts := [82, 37, 123, 3]) ((KeepT.refl _ _).set (p := ⟨wc.heap.size, 0, none⟩) hbA.type (by decide) _) (fun _ h => h), HHT.out, hE08.setCell (Nat.le_refl _) _⟩
            | exact ⟨_, At, ct, ht, kk, rfl, hbB.set_ 0 _, hS8.keep (ts := [82, 37, 123, 3]) ((KeepT.refl _ _).set (p := ⟨w7.heap.size, 0, none⟩) hbB.type (by decide) _) (fun _ h => h), HHT.out, hE08.setCell hs7 _⟩
            | exact ⟨_, At, ct, ht, kk, rfl, Blk.newAt _ _ _ rfl, hS8.ext ((Ext.refl _).alloc _), HHT.out, hE08.alloc _⟩
      case rest =>
        obtain ⟨gt, At, ct, ht, kk, rfl, hBt, hST, hht, hEc⟩ := hcut
        have hhl7 : ht.length ≤ 100000 := by
          have h1 : (lackOf hs nm).length ≤ hs.length := List.length_filter_le _ _
          have h2 := HHL.out
          rw [← hht]
          simp only [List.length_append, List.length_cons, List.length_take, List.length_drop]
          omega
        have HOK7 := Lib.hid (fun (h : HeldD) (hh : h ∈ ht) => (show HeldOk h by
          rw [← hht] at hh
          rcases List.mem_append.1 hh with h1 | h1
          · exact HOKH.out h (List.mem_filter.1 (List.mem_of_mem_take h1)).1
          · rcases List.mem_cons.1 h1 with rfl | h1
            · refine ⟨by simp, by simp, fun v hv => ?_⟩
              simp only [List.mem_singleton] at hv
              subst hv
              have := HTB2.out p HMEM.out
              rw [HTV.out] at this
              omega
            · exact HOKH.out h (List.mem_filter.1 (List.mem_of_mem_drop h1)).1))
        have HLIE := Lib.hid (show missK ht [] ps = [] ∧ sumVal ht [] ps = ((TT : Int) : Rat) + p.c * ((y : Int) : Rat) by
          have h1 := lie_law HPM.out HPN.out HAT.out HMEM.out kk y
          rw [HNM.out, HTV.out, hht, HST.out hs HPM.out] at h1
          exact h1)
        have HBA14 := Lib.hid (HBA13.out.ext hEc)
        have HBP14 := Lib.hid (HBP13.out.ext hEc)
        have HP14 := Lib.hid (HP13.out.ext hEc)
        have HQ14 := Lib.hid (HQ13.out.ext hEc)
        have HPC14 := Lib.hid (HPC13.out.ext hEc)
        have HE14 := Lib.hid (HE13.out.trans hEc)
        have HST14 := Lib.hid hST
        have HBT14 := Lib.hid hBt
        clear hEc hht hST hBt k3 HREF HKF HDR HAD2 hll HBS13 HBA13 HBP13 HP13 HQ13 HPC13 HE13 HS13 HIE HBL HBS HBP HBA5 HP5 HQ5 HPC5 HEW HEce hel
        have HSU := Lib.hid ((SumK_any _ _ _ _ _ _ _ ps _ ht [] wc (by omega) hhl7 (by simp) HOK7.out HTW.out HSH.out HP14.out HQ14.out HST14.out (IsNums.nil _)).mono (R' := fun e w' => ∃ (s : Bool) (A : Option Addr) (n c : Nat) (s' : Bool) (A' : Option Addr) (n' c' : Nat) (Am : Option Addr) (cm : Nat), e = .returned (.tuple #[.agg #[.bool s, .slice A n c, .bool s', .slice A' n' c'], .slice Am 0 cm]) ∧ IsRat w' (.bool s) (.slice A n c) (.bool s') (.slice A' n' c') (sumVal ht [] ps) ∧ Ext wc w')
          fun e w' ⟨a, b, c, d, m, he, hq, hm, hE⟩ => by
            rw [HLIE.out.1] at hm
            obtain ⟨s, A, n, c, s', A', n', c', rfl, rfl, rfl, rfl⟩ := hq.form
            obtain ⟨Am, cm, rfl⟩ := hm.shape
            exact ⟨_, _, _, _, _, _, _, _, _, _, he, hq, hE⟩)
        have f8 := HBA14.out.five
        have g8 := HBT14.out.cell 0
        go_wp2_with fail
        refine HSU.out.mono ?_
        rintro e w9 ⟨s4, A4, n4, c4, s5, A5, n5, c5, Av, cv, rfl, hq9, hE9⟩
        go_upto_region 15 with fail
        obtain ⟨wa, hwa⟩ : ∃ wa : World, wa = w9.alloc (.cells #[.bool s4, .slice A4 n4 c4, .bool s5, .slice A5 n5 c5] 39) := ⟨_, rfl⟩
        rw [← hwa]
        have hEa : Ext wc wa := by rw [hwa]; exact hE9.alloc _
        have hE9a : Ext w9 wa := by rw [hwa]; exact (Ext.refl _).alloc _
        have hBv : Blk wa w9.heap.size 39 #[.bool s4, .slice A4 n4 c4, .bool s5, .slice A5 n5 c5] := by rw [hwa]; exact Blk.newAt _ _ _ rfl
        have HBV := Lib.hid hBv
        have HQV := Lib.hid (hq9.ext hE9a)
        have HEA := Lib.hid hEa
        clear hwa hBv hq9 hE9 hE9a f8 g8 HSU hEa
        generalize w9.heap.size = gv at *
        have HKF : Hid (∀ w', Ext wa w' → (w'.cell? ⟨gv, 0, none⟩ = some (.bool s4) ∧ w'.cell? ⟨gv, 1, none⟩ = some (.slice A4 n4 c4) ∧ w'.cell? ⟨gv, 2, none⟩ = some (.bool s5) ∧ w'.cell? ⟨gv, 3, none⟩ = some (.slice A5 n5 c5) ∧ w'.cell? ⟨ga, 0, none⟩ = some (.slice (some ⟨b, o, none⟩) ps.length n0) ∧ w'.cell? ⟨ga, 1, none⟩ = some (.bool s1) ∧ w'.cell? ⟨ga, 2, none⟩ = some (.slice A1 n1 c1) ∧ w'.cell? ⟨ga, 3, none⟩ = some (.bool s2) ∧ w'.cell? ⟨ga, 4, none⟩ = some (.slice A2 n2 c2) ∧ w'.cell? ⟨gp, 2, none⟩ = some (.bool x1) ∧ w'.cell? ⟨gp, 3, none⟩ = some (.slice X1 e1 f1) ∧ w'.cell? ⟨gp, 4, none⟩ = some (.bool x2) ∧ w'.cell? ⟨gp, 5, none⟩ = some (.slice X2 e2 f2) ∧ w'.cell? ⟨gt, 0, none⟩ = some (.slice At ht.length ct))) := fun w' k =>
          have q1 := (HBV.out.ext k).four
          have q2 := (HBA14.out.ext (HEA.out.trans k))
          have q3 := (HBP14.out.ext (HEA.out.trans k))
          have q4 := (HBT14.out.ext (HEA.out.trans k))
          ⟨q1.1, q1.2.1, q1.2.2.1, q1.2.2.2.1, q2.cell 0, q2.cell 1, q2.cell 2, q2.cell 3, q2.cell 4, q3.cell 2, q3.cell 3, q3.cell 4, q3.cell 5, q4.cell 0⟩
        have hst1 := sumVal_tw (g := []) (hs := ht) HOK7.out HTW.out ps.length (Nat.le_refl _)
        rw [List.take_length] at hst1
        have HPT := Lib.hid (HTW.out p HMEM.out)
        have hpc := HPT.out.c
        obtain ⟨S2, hS2⟩ : ∃ S2, sumVal ht [] ps = S2 := ⟨_, rfl⟩
        rw [hS2] at hst1 HQV
        have heq0 := HLIE.out.2
        rw [hS2] at heq0
        have heq : S2 - ((TT : Int) : Rat) = p.c * ((y : Int) : Rat) := by
          rw [heq0, Rat.sub_eq_add_neg, Rat.add_comm ((TT : Int) : Rat), Rat.add_assoc, Rat.add_neg_cancel, Rat.add_zero]
        have hmt := hpc.mul (v := y) (N := 32768) (by omega)
        have hd1 := hst1.den
        have hn1 := hst1.num
        have hm1 := hmt.num
        have hm2 := hmt.den
        have hc1 := hpc.num
        have hc2 := hpc.den
        have htt := HTT.out
        have hB : ps.length * 1000000000000 ≤ 241000000000000 := by omega
        have hnn : (S2.num * ((TT : Int) : Rat).den - ((TT : Int) : Rat).num * S2.den).natAbs ≤ 18446744073709551615 := by
          rw [Rat.num_intCast, Rat.den_intCast]
          have a2 : (TT * S2.den).natAbs ≤ 1000000000 * 12 := by rw [Int.natAbs_mul, Int.natAbs_natCast]; exact Nat.mul_le_mul htt hd1
          have a3 : S2.num * ((1 : Nat) : Int) = S2.num := by simp
          rw [a3]
          omega
        have hnm2 : (p.c.num * ((y : Int) : Rat).num).natAbs ≤ 18446744073709551615 := by
          rw [Rat.num_intCast, Int.natAbs_mul]
          have a3 := Nat.mul_le_mul hc1 (show y.natAbs ≤ 32768 by omega)
          omega
        have HSB := Lib.hid (fun (w' : World) (k : Ext wa w') => rsub1_any _ _ _ _ _ _ _ _ S2 ((TT : Int) : Rat) w' (by omega) (by rw [Rat.num_intCast]; omega) (by rw [Rat.den_intCast]; omega) hnn (HQV.out.ext k) (HQ14.out.ext (HEA.out.trans k)))
        have HOF2 := Lib.hid (fun (w' : World) => (show Calls Tryz.prog 24 #[.int .i64 y, .int .i64 1] w' (RRat w' ((y : Int) : Rat)) by
          have h1 := rOf1_any y 1 w' (by omega) (by omega) (by omega) (by omega)
          rw [show mkRat y 1 = ((y : Int) : Rat) by rw [Rat.mkRat_one]] at h1
          exact h1))
        have HML := Lib.hid (fun (w' : World) (b3 v3 b4 v4 : Value) (k : Ext wa w') (h : IsRat w' b3 v3 b4 v4 ((y : Int) : Rat)) => rmul1_any _ _ _ _ b3 v3 b4 v4 p.c ((y : Int) : Rat) w' (by omega) (by rw [Rat.num_intCast]; omega) (by rw [Rat.den_intCast]; omega) hnm2 (HPC14.out.ext (HEA.out.trans k)) h)
        have HSM := Lib.hid (fun (w' : World) (b1 v1 b2 v2 b3 v3 b4 v4 : Value) (h : IsRat w' b1 v1 b2 v2 (S2 - ((TT : Int) : Rat))) (h2 : IsRat w' b3 v3 b4 v4 (p.c * ((y : Int) : Rat))) => same_one h h2 heq (by rw [heq]; omega) (by rw [heq]; omega))
        obtain ⟨yb, hyb⟩ : ∃ yb : Bool, (y == 0) = yb := ⟨_, rfl⟩
        have hdec : decide (S2 = ((TT : Int) : Rat)) = yb := by
          rw [← hyb, heq0]
          by_cases hy0 : y = 0
          · subst hy0
            simp [Rat.add_zero, Rat.mul_zero]
          · have h1 : ((y == 0) : Bool) = false := beq_eq_false_iff_ne.2 hy0
            rw [h1, decide_eq_false_iff_not]
            intro hx
            have h2 : p.c * ((y : Int) : Rat) = 0 := by
              have h3 := heq
              rw [heq0, hx, Rat.sub_eq_add_neg, Rat.add_neg_cancel] at h3
              exact h3.symm
            rcases Rat.mul_eq_zero.1 h2 with h3 | h3
            · exact HNZ.out p HMEM.out h3
            · exact hy0 (by exact_mod_cast h3)
        have HHO := Lib.hid (fun (W : World) (k : Ext wa W) => (HoldsK_any _ _ _ _ _ _ _ ps _ ht [] W (by omega) hhl7 (by simp) HOK7.out HTW.out HSH.out (by rw [Rat.num_intCast]; exact htt) (by rw [Rat.den_intCast]; omega) (HP14.out.ext (HEA.out.trans k)) (HQ14.out.ext (HEA.out.trans k)) (HST14.out.ext (HEA.out.trans k)) (IsNums.nil _)).mono (R' := fun e w' => e = .returned (.bool yb) ∧ Ext W w')
          fun e w' ⟨he, hE⟩ => ⟨by
            rw [he]
            unfold holdsOf
            rw [HLIE.out.1, hS2, hdec]
            rfl, hE⟩)
        have hwy : IntKind.i64.wrap y = y := IntWalk.i64_in _ (by omega)
        have kf := HKF.out wa (Ext.refl _)
        have HEF := Lib.hid (HE14.out.trans HEA.out)
        clear hdec hpc hmt hS2 hst1 hd1 hn1 hm1 hm2 hc1 hc2 hB hnn hnm2 heq heq0 htt hhl7 hhs
        go_region_held3 (fun w' => w'.cell? ⟨gv, 0, none⟩ = some (.bool s4) ∧ w'.cell? ⟨gv, 1, none⟩ = some (.slice A4 n4 c4) ∧ w'.cell? ⟨gv, 2, none⟩ = some (.bool s5) ∧ w'.cell? ⟨gv, 3, none⟩ = some (.slice A5 n5 c5) ∧ w'.cell? ⟨ga, 0, none⟩ = some (.slice (some ⟨b, o, none⟩) ps.length n0) ∧ w'.cell? ⟨ga, 1, none⟩ = some (.bool s1) ∧ w'.cell? ⟨ga, 2, none⟩ = some (.slice A1 n1 c1) ∧ w'.cell? ⟨ga, 3, none⟩ = some (.bool s2) ∧ w'.cell? ⟨ga, 4, none⟩ = some (.slice A2 n2 c2) ∧ w'.cell? ⟨gp, 2, none⟩ = some (.bool x1) ∧ w'.cell? ⟨gp, 3, none⟩ = some (.slice X1 e1 f1) ∧ w'.cell? ⟨gp, 4, none⟩ = some (.bool x2) ∧ w'.cell? ⟨gp, 5, none⟩ = some (.slice X2 e2 f2) ∧ w'.cell? ⟨gt, 0, none⟩ = some (.slice At ht.length ct))
          (first | (refine HKF.out _ ?_; (repeat (first | with_reducible assumption | with_reducible exact Ext.refl _ | with_reducible refine Ext.drew ?_ | with_reducible refine Ext.drewN ?_ _ | with_reducible refine Ext.alloc ?_ _ | with_reducible refine Ext.set2 ?_ (by omega) _ _ | with_reducible refine Ext.setCell ?_ (by first | omega | (simp; done) | (simp; omega)) _ | with_reducible refine Ext.trans ?_ (by with_reducible assumption))); done))
          (first | (go_at_call 22; (with_reducible refine (HSB.out _ ?q1).mono ?_); (case q1 => (repeat (first | with_reducible assumption | with_reducible exact Ext.refl _ | with_reducible refine Ext.drew ?_ | with_reducible refine Ext.drewN ?_ _ | with_reducible refine Ext.alloc ?_ _ | with_reducible refine Ext.set2 ?_ (by omega) _ _ | with_reducible refine Ext.setCell ?_ (by first | omega | (simp; done) | (simp; omega)) _ | with_reducible refine Ext.trans ?_ (by with_reducible assumption)))); rintro e wx ⟨sx, Ax, nx, cx, sx', Ax', nx', cx', rfl, hqx, hex⟩) | (go_at_call 24; (with_reducible refine (HOF2.out _).mono ?_); rintro e wy ⟨sy, Ay, ny, cy, sy', Ay', ny', cy', rfl, hqy, hey⟩) | (go_at_call 23; (with_reducible refine (HML.out _ _ _ _ _ ?q1 ?q2).mono ?_); (case q1 => (repeat (first | with_reducible assumption | with_reducible exact Ext.refl _ | with_reducible refine Ext.drew ?_ | with_reducible refine Ext.drewN ?_ _ | with_reducible refine Ext.alloc ?_ _ | with_reducible refine Ext.set2 ?_ (by omega) _ _ | with_reducible refine Ext.setCell ?_ (by first | omega | (simp; done) | (simp; omega)) _ | with_reducible refine Ext.trans ?_ (by with_reducible assumption)))); (case q2 => (refine IsRat.ext hqy ?_; (repeat (first | with_reducible assumption | with_reducible exact Ext.refl _ | with_reducible refine Ext.drew ?_ | with_reducible refine Ext.drewN ?_ _ | with_reducible refine Ext.alloc ?_ _ | with_reducible refine Ext.set2 ?_ (by omega) _ _ | with_reducible refine Ext.setCell ?_ (by first | omega | (simp; done) | (simp; omega)) _ | with_reducible refine Ext.trans ?_ (by with_reducible assumption))))); rintro e wz ⟨sz, Az, nz, cz, sz', Az', nz', cz', rfl, hqz, hez⟩) | (go_at_call 13; (with_reducible refine (HSM.out _ _ _ _ _ _ _ _ _ ?q1 ?q2).mono ?_); (case q1 => (refine IsRat.ext hqx ?_; (repeat (first | with_reducible assumption | with_reducible exact Ext.refl _ | with_reducible refine Ext.drew ?_ | with_reducible refine Ext.drewN ?_ _ | with_reducible refine Ext.alloc ?_ _ | with_reducible refine Ext.set2 ?_ (by omega) _ _ | with_reducible refine Ext.setCell ?_ (by first | omega | (simp; done) | (simp; omega)) _ | with_reducible refine Ext.trans ?_ (by with_reducible assumption))))); (case q2 => (refine IsRat.ext hqz ?_; (repeat (first | with_reducible assumption | with_reducible exact Ext.refl _ | with_reducible refine Ext.drew ?_ | with_reducible refine Ext.drewN ?_ _ | with_reducible refine Ext.alloc ?_ _ | with_reducible refine Ext.set2 ?_ (by omega) _ _ | with_reducible refine Ext.setCell ?_ (by first | omega | (simp; done) | (simp; omega)) _ | with_reducible refine Ext.trans ?_ (by with_reducible assumption))))); rintro e wn ⟨rfl, hen⟩) | (go_at_call 25; (with_reducible refine (HHO.out _ ?q1).mono ?_); (case q1 => (repeat (first | with_reducible assumption | with_reducible exact Ext.refl _ | with_reducible refine Ext.drew ?_ | with_reducible refine Ext.drewN ?_ _ | with_reducible refine Ext.alloc ?_ _ | with_reducible refine Ext.set2 ?_ (by omega) _ _ | with_reducible refine Ext.setCell ?_ (by first | omega | (simp; done) | (simp; omega)) _ | with_reducible refine Ext.trans ?_ (by with_reducible assumption)))); rintro e wh ⟨rfl, heh⟩))
        all_goals
          go_wp2
          go_ret
          exact ⟨by simp, HEF.out.trans (by (repeat (first | with_reducible assumption | with_reducible exact Ext.refl _ | with_reducible refine Ext.drew ?_ | with_reducible refine Ext.drewN ?_ _ | with_reducible refine Ext.alloc ?_ _ | with_reducible refine Ext.set2 ?_ (by omega) _ _ | with_reducible refine Ext.setCell ?_ (by first | omega | (simp; done) | (simp; omega)) _ | with_reducible refine Ext.trans ?_ (by with_reducible assumption))))⟩

end Go.Proofs.YtekipapkcgoieaaGreatDoor
