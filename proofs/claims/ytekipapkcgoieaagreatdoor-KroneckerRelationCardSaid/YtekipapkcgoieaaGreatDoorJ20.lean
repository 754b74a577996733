/-
  What every row of this seat wants: the table out of the row's list, a start that fits, arguments as they were.
  The law on numbers out of range: what it computes.
-/
import Derived.Test.YtekipapkcgoieaaGreatDoorJ01
import Derived.Test.YtekipapkcgoieaaGreatDoorJ11
import Derived.Test.YtekipapkcgoieaaGreatDoorCards
import Derived.Test.YtekipapkcgoieaaGreatDoorTie
import Derived.WalkKit
import Derived.ProofKit
import Derived.OpenShut
import Derived.Deep.DeepHandedRow
import Derived.Lib.LaidTab
import Derived.Stop.LaidErr
import Derived.Test.YtekipapkcgoieaaGreatDoorJ18
import Derived.IntWalk
set_option linter.unusedVariables false
set_option linter.unusedSimpArgs false

/- What every row of this seat wants: the table out of the row's list, a start that fits, arguments as they were. -/
namespace Go.Proofs.YtekipapkcgoieaaGreatDoor
open Go.ChangeShapes Go.WideShapes Go.ChangeAt Go.RowKit

theorem rOwn : ownKnob Tryz.prog.godebug = none := by kernel_rfl
theorem rTab : Tryz.prog.globalNamed "internal/strconv.uint64pow10" = some 3 := by kernel_rfl
theorem rTabType : (Tryz.prog.globals[3]?).map (·.type) = some 329 := by kernel_rfl
theorem rCells20 : Tryz.prog.cellsOf 329 = 20 := by kernel_rfl
theorem rCells1 : Tryz.prog.cellsOf 121 = 1 := by kernel_rfl
theorem rTabData {H : Type} : Rows.laid_internal_strconv_uint64pow10 (H := H) = Lib.tabData .u64 Lib.pow10Tab := by rfl

/-- The list that every row of this seat bears. -/
def laidList : List (String × DataW Unit) := [("math/bits.deBruijn32tab", Rows.laid_math_bits_deBruijn32tab), ("math/bits.deBruijn64tab", Rows.laid_math_bits_deBruijn64tab), ("internal/strconv.uint64pow10", Rows.laid_internal_strconv_uint64pow10)]
theorem tab_of_laid {W : World} (h : laidMet Tryz.prog laidList W) : Tab W := by
  have h2 := h.tail.tail
  rw [rTabData] at h2
  exact Lib.tabIs_of_head (rest := []) rTab rTabType Tryz.underlying329 Tryz.underlying121 rCells1 rCells20 h2

/-- A start whose tables hold what their initialisers lay. -/
def laidTab (l : List Int) (k : IntKind) : Obj → Obj
  | .cells _ t frozen => .cells (l.map fun z => Value.int k z).toArray t frozen
  | o => o
def tab32 : List Int := [0, 1, 28, 2, 29, 14, 24, 3, 30, 22, 20, 15, 25, 17, 4, 8, 31, 27, 13, 23, 21, 19, 16, 7, 26, 12, 18, 6, 11, 5, 10, 9]
def tab64 : List Int := [0, 1, 56, 2, 57, 49, 28, 3, 61, 58, 42, 50, 38, 29, 17, 4, 62, 47, 59, 36, 45, 43, 51, 22, 53, 39, 33, 30, 24, 18, 12, 5, 63, 55, 48, 27, 60, 41, 37, 16, 46, 35, 44, 21, 52, 32, 23, 11, 54, 26, 40, 15, 34, 20, 31, 10, 25, 14, 19, 9, 13, 8, 7, 6]
noncomputable def laidWorld (os : Os) : World :=
  { World.holding Tryz.prog os ⟨#[], #[], []⟩ with heap := (((World.holding Tryz.prog os ⟨#[], #[], []⟩).heap.modify 4 (laidTab tab32 .u8)).modify 5 (laidTab tab64 .u8)).modify 3 (laidTab Lib.pow10Tab .u64) }

theorem wf_i16 {b : Int} (wb : (Lit.int .i16 b).wf = true) : -32768 ≤ b ∧ b ≤ 32767 := by
  simp only [Lit.wf, Bool.and_eq_true, decide_eq_true_eq] at wb
  exact ⟨wb.1, wb.2⟩
theorem wf_i64 {b : Int} (wb : (Lit.int .i64 b).wf = true) : -9223372036854775808 ≤ b ∧ b ≤ 9223372036854775807 := by
  simp only [Lit.wf, Bool.and_eq_true, decide_eq_true_eq] at wb
  exact ⟨wb.1, wb.2⟩

/-- Arguments that read as they did, in a world in which nothing old has turned. -/
theorem post_ext {H : Type} {enc : TypeId × Value → H} {P : Program} {f : Func} {s : ChangeSpec} {apart fresh handsOn again : Bool} {W W' : World} {args : Array Value} {v : Value} {ds gs : List (DataW H)} {before pa pv : List MemPlace}
    (hW : DataW.Whole enc P f.params.toList s.vars apart W args.toList ds gs before)
    (hres : ∀ (b : Nat) (sp : Nat → Bool) (hd : Bool), DataW.TrodAll enc P W' b sp hd f.resultTypes.toList (v.resultList f.resultTypes.size) (s.fn H (ds ++ gs)).results [])
    (hargs : ∀ sp : Nat → Bool, (∀ p ∈ before, sp p.block = true) → DataW.TrodAll enc P W' 0 sp true f.params.toList args.toList (s.fn H (ds ++ gs)).args pa)
    (hvars : ∀ sp : Nat → Bool, (∀ p ∈ before, sp p.block = true) → DataW.TrodVars enc P W' sp s.vars (s.fn H (ds ++ gs)).vars pv)
    (hps : before = pa ++ pv) (hE : Ext W W')
    (hok : ∀ (j : Nat) (t : TypeId) (r : Value), f.resultTypes[j]? = some t → (v.resultList f.resultTypes.size)[j]? = some r → Value.okWide P W' .any 0 t r) :
    s.post enc P f apart fresh handsOn again W args v W' := by
  have hlt := hW.lt
  have hold : ∀ p ∈ before, (fun b => decide (b < W.heap.size)) p.block = true := fun p hp => by simpa using hlt p hp
  refine ⟨ds, gs, before, [], pa, pv, hW, hres _ _ _, hargs _ hold, hvars _ hold, World.keptBut_mono (fun p hp => ⟨hp, ?_⟩) (Below.frame hE (· ∈ before)), fun _ => ?_⟩
  · rw [hps, List.mem_append] at hp
    exact Or.inr hp
  · obtain ⟨_, _, _, _, _, hz, hn⟩ := hW
    refine ⟨hok, _, _, ([] ++ pa) ++ pv, ⟨[] ++ pa, pv, trodAll_append (hargs _ (fun _ _ => rfl)) (hres _ _ _), hvars _ (fun _ _ => rfl), rfl, ?_, ?_⟩, ?_⟩
    · intro b off hp
      have hb : MemPlace.cell b off ∈ before := by rw [hps]; simpa using hp
      rw [hE.frozen (p := ⟨b, off, none⟩) (hlt _ hb)]
      exact hz b off hb
    · intro ha
      have := hn ha
      rw [hps] at this
      simpa using this
    · intro p hp _
      rw [hps]
      simpa using hp

end Go.Proofs.YtekipapkcgoieaaGreatDoor

/- The law on numbers out of range: what it computes. -/
namespace Go.Proofs.YtekipapkcgoieaaGreatDoor
open Go.RowKit
attribute [local go_sem ↓] Go.wp_at_zero Go.wp_at_succ

theorem same_one {b1 v1 b2 v2 b3 v3 b4 v4 : Value} {p q : Rat} {w : World} (h1 : IsRat w b1 v1 b2 v2 p) (h2 : IsRat w b3 v3 b4 v4 q) (hpq : p = q) (hn : p.num.natAbs ≤ 18446744073709551615) (hd : p.den ≤ 18446744073709551615) :
    Calls Tryz.prog 13 #[.agg #[b1, v1, b2, v2], .agg #[b3, v3, b4, v4]] w fun e w' => e = .returned (.bool true) ∧ Ext w w' := by
  subst hpq
  have l1 := wordsOf_len2 (m := p.num.natAbs) (by omega)
  have l2 := wordsOf_len2 (m := p.den) (by omega)
  exact (rSame1_any b1 v1 b2 v2 b3 v3 b4 v4 p p w (by omega) (by omega) (by omega) (by omega) h1 h2).mono fun e w' ⟨he, hE⟩ => ⟨by rw [he]; simp, hE⟩

theorem mk_one (t : Int) : (mkRat t 1).num = t ∧ (mkRat t 1).den = 1 := by
  have h : mkRat t 1 = (t : Rat) := by rw [Rat.mkRat_one]
  rw [h]
  exact ⟨Rat.num_intCast t, Rat.den_intCast t⟩
theorem mk_zero (t : Int) : ((0 : Rat) = mkRat t 1) ↔ t = 0 := by
  constructor
  · intro h
    have := congrArg Rat.num h
    rw [(mk_one t).1] at this
    exact this.symm
  · rintro rfl; rfl

end Go.Proofs.YtekipapkcgoieaaGreatDoor
