/-
  What every row of this seat wants: the table out of the row's list, a start that fits, arguments as they were.
  The law on numbers out of range: what it computes.
-/
import Derived.Test.YtddgjlfniabehaaGreatDoorJ01
import Derived.Test.YtddgjlfniabehaaGreatDoorJ11
import Derived.Test.YtddgjlfniabehaaGreatDoorCards
import Derived.Test.YtddgjlfniabehaaGreatDoorTie
import Derived.WalkKit
import Derived.ProofKit
import Derived.OpenShut
import Derived.Deep.DeepHandedRow
import Derived.Lib.LaidTab
import Derived.Stop.LaidErr
import Derived.Test.YtddgjlfniabehaaGreatDoorJ18
import Derived.IntWalk
set_option linter.unusedVariables false
set_option linter.unusedSimpArgs false

/- What every row of this seat wants: the table out of the row's list, a start that fits, arguments as they were. -/
namespace Go.Proofs.YtddgjlfniabehaaGreatDoor
open Go.ChangeShapes Go.WideShapes Go.ChangeAt Go.RowKit

theorem rOwn : ownKnob Tryz.prog.godebug = none := by kernel_rfl
theorem rTab : Tryz.prog.globalNamed "internal/strconv.uint64pow10" = some 1 := by kernel_rfl
theorem rTabType : (Tryz.prog.globals[1]?).map (·.type) = some 276 := by kernel_rfl
theorem rCells20 : Tryz.prog.cellsOf 276 = 20 := by kernel_rfl
theorem rCells1 : Tryz.prog.cellsOf 135 = 1 := by kernel_rfl
theorem rTabData {H : Type} : Rows.laid_internal_strconv_uint64pow10 (H := H) = Lib.tabData .u64 Lib.pow10Tab := by rfl

/-- The list that every row of this seat bears. -/
def laidList : List (String × DataW Unit) := [("math/bits.deBruijn32tab", Rows.laid_math_bits_deBruijn32tab), ("math/bits.deBruijn64tab", Rows.laid_math_bits_deBruijn64tab), ("internal/strconv.uint64pow10", Rows.laid_internal_strconv_uint64pow10)]
theorem tab_of_laid {W : World} (h : laidMet Tryz.prog laidList W) : Tab W := by
  have h2 := h.tail.tail
  rw [rTabData] at h2
  exact Lib.tabIs_of_head (rest := []) rTab rTabType Tryz.underlying276 Tryz.underlying135 rCells1 rCells20 h2

/-- A start whose tables hold what their initialisers lay. -/
def laidTab (l : List Int) (k : IntKind) : Obj → Obj
  | .cells _ t frozen => .cells (l.map fun z => Value.int k z).toArray t frozen
  | o => o
def tab32 : List Int := [0, 1, 28, 2, 29, 14, 24, 3, 30, 22, 20, 15, 25, 17, 4, 8, 31, 27, 13, 23, 21, 19, 16, 7, 26, 12, 18, 6, 11, 5, 10, 9]
def tab64 : List Int := [0, 1, 56, 2, 57, 49, 28, 3, 61, 58, 42, 50, 38, 29, 17, 4, 62, 47, 59, 36, 45, 43, 51, 22, 53, 39, 33, 30, 24, 18, 12, 5, 63, 55, 48, 27, 60, 41, 37, 16, 46, 35, 44, 21, 52, 32, 23, 11, 54, 26, 40, 15, 34, 20, 31, 10, 25, 14, 19, 9, 13, 8, 7, 6]
noncomputable def laidWorld (os : Os) : World :=
  { World.holding Tryz.prog os ⟨#[], #[], []⟩ with heap := (((World.holding Tryz.prog os ⟨#[], #[], []⟩).heap.modify 3 (laidTab tab32 .u8)).modify 4 (laidTab tab64 .u8)).modify 1 (laidTab Lib.pow10Tab .u64) }

theorem wf_i16 {b : Int} (wb : (Lit.int .i16 b).wf = true) : -32768 ≤ b ∧ b ≤ 32767 := by
  simp only [Lit.wf, Bool.and_eq_true, decide_eq_true_eq] at wb
  exact ⟨wb.1, wb.2⟩
theorem wf_i64 {b : Int} (wb : (Lit.int .i64 b).wf = true) : -9223372036854775808 ≤ b ∧ b ≤ 9223372036854775807 := by
  simp only [Lit.wf, Bool.and_eq_true, decide_eq_true_eq] at wb
  exact ⟨wb.1, wb.2⟩

/-- Arguments that read as they did, in a world in which nothing old has turned. -/
theorem post_ext {H : Type} {enc : TypeId × Value → H} {P : Program} {f : Func} {s : ChangeSpec} {apart fresh handsOn again : Bool} {W W' : World} {args : Array Value} {v : Value} {ds gs : List (DataW H)} {before pa pv : List MemPlace}
    (hW : DataW.Whole enc P f.params.toList s.vars apart W args.toList ds gs before)
    (hres : ∀ (b : Nat) (sp : Nat → Bool) (hd : Bool), DataW.TrodAll enc P W' b sp hd f.resultTypes.toList (v.resultList f.resultTypes.size) (s.fn H (ds ++ gs)).results [])
    (hargs : ∀ sp : Nat → Bool, (∀ p ∈ before, sp p.block = true) → DataW.TrodAll enc P W' 0 sp true f.params.toList args.toList (s.fn H (ds ++ gs)).args pa)
    (hvars : ∀ sp : Nat → Bool, (∀ p ∈ before, sp p.block = true) → DataW.TrodVars enc P W' sp s.vars (s.fn H (ds ++ gs)).vars pv)
    (hps : before = pa ++ pv) (hE : Ext W W')
    (hok : ∀ (j : Nat) (t : TypeId) (r : Value), f.resultTypes[j]? = some t → (v.resultList f.resultTypes.size)[j]? = some r → Value.okWide P W' .any 0 t r) :
    s.post enc P f apart fresh handsOn again W args v W' := by
  have hlt := hW.lt
  have hold : ∀ p ∈ before, (fun b => decide (b < W.heap.size)) p.block = true := fun p hp => by simpa using hlt p hp
  refine ⟨ds, gs, before, [], pa, pv, hW, hres _ _ _, hargs _ hold, hvars _ hold, World.keptBut_mono (fun p hp => ⟨hp, ?_⟩) (Below.frame hE (· ∈ before)), fun _ => ?_⟩
  · rw [hps, List.mem_append] at hp
    exact Or.inr hp
  · obtain ⟨_, _, _, _, _, hz, hn⟩ := hW
    refine ⟨hok, _, _, ([] ++ pa) ++ pv, ⟨[] ++ pa, pv, trodAll_append (hargs _ (fun _ _ => rfl)) (hres _ _ _), hvars _ (fun _ _ => rfl), rfl, ?_, ?_⟩, ?_⟩
    · intro b off hp
      have hb : MemPlace.cell b off ∈ before := by rw [hps]; simpa using hp
      rw [hE.frozen (p := ⟨b, off, none⟩) (hlt _ hb)]
      exact hz b off hb
    · intro ha
      have := hn ha
      rw [hps] at this
      simpa using this
    · intro p hp _
      rw [hps]
      simpa using hp

end Go.Proofs.YtddgjlfniabehaaGreatDoor

/- The law on numbers out of range: what it computes. -/
namespace Go.Proofs.YtddgjlfniabehaaGreatDoor
open Go.RowKit
attribute [local go_sem ↓] Go.wp_at_zero Go.wp_at_succ

theorem same_one {b1 v1 b2 v2 b3 v3 b4 v4 : Value} {p q : Rat} {w : World} (h1 : IsRat w b1 v1 b2 v2 p) (h2 : IsRat w b3 v3 b4 v4 q) (hpq : p = q) (hn : p.num.natAbs ≤ 18446744073709551615) (hd : p.den ≤ 18446744073709551615) :
    Calls Tryz.prog 18 #[.agg #[b1, v1, b2, v2], .agg #[b3, v3, b4, v4]] w fun e w' => e = .returned (.bool true) ∧ Ext w w' := by
  subst hpq
  have l1 := wordsOf_len2 (m := p.num.natAbs) (by omega)
  have l2 := wordsOf_len2 (m := p.den) (by omega)
  exact (rSame1_any b1 v1 b2 v2 b3 v3 b4 v4 p p w (by omega) (by omega) (by omega) (by omega) h1 h2).mono fun e w' ⟨he, hE⟩ => ⟨by rw [he]; simp, hE⟩

theorem mk_one (t : Int) : (mkRat t 1).num = t ∧ (mkRat t 1).den = 1 := by
  have h : mkRat t 1 = (t : Rat) := by rw [Rat.mkRat_one]
  rw [h]
  exact ⟨Rat.num_intCast t, Rat.den_intCast t⟩
theorem mk_zero (t : Int) : ((0 : Rat) = mkRat t 1) ↔ t = 0 := by
  constructor
  · intro h
    have := congrArg Rat.num h
    rw [(mk_one t).1] at this
    exact this.symm
  · rintro rfl; rfl

set_option maxRecDepth 100000 in
set_option maxHeartbeats 8000000 in
theorem refuses_walk (hex : ∀ w, Tab w → Calls Tryz.prog 8 #[] w fun e w' => e = .returned (.bool true) ∧ Ext w w')
    (n t : Int) (w : World) (ht : Tab w) (h1 : -32768 ≤ t) (h2 : t ≤ 32767) :
    Calls Tryz.prog 6 #[.int .i64 n, .int .i16 t] w fun e w' => e = .returned (.bool true) ∧ Ext w w' := by
  have HEX := Lib.hid (hex w ht)
  have HA := Lib.hid (fun (m : Int) (w' : World) (h : m < 1 ∨ 1024 < m) => AuditK_out m w' h)
  have HO := Lib.hid (fun w' : World => (show Calls Tryz.prog 22 #[.int .i64 t, .int .i64 1] w' (RRat w' (mkRat t 1)) from rOf1_any t 1 w' (by omega) (by omega) (by omega) (by omega)))
  have O0_1 := Lib.hid (fun w' : World => (show Calls Tryz.prog 22 #[.int .i64 0, .int .i64 1] w' (RRat w' (mkRat 0 1)) from rOf1_any 0 1 w' (by omega) (by omega) (by omega) (by omega)))
  have hwr : IntKind.i64.wrap t = t := IntWalk.i64_in _ (by omega)
  clear hex ht
  go_enter Tryz.func6, Tryz.ntmps6
  go_wp2_with fail
  refine HEX.out.mono ?_
  rintro e w1 ⟨rfl, hE1⟩
  go_upto_region 4 with fail
  go_cut [19] (fun p0 wx => p0 = .bool (decide (1 ≤ n ∧ n ≤ 1024)) ∧ wx = w1)
  case first =>
    by_cases c1 : 1 ≤ n
    · by_cases c2 : n ≤ 1024
      · have hd : decide (1 ≤ n ∧ n ≤ 1024) = true := decide_eq_true ⟨c1, c2⟩
        go_wp2_with fail
        go_meet
        exact ⟨by rw [hd], rfl⟩
      · have hd : decide (1 ≤ n ∧ n ≤ 1024) = false := decide_eq_false (fun h => c2 h.2)
        go_wp2_with fail
        go_meet
        exact ⟨by rw [hd], rfl⟩
    · have hd : decide (1 ≤ n ∧ n ≤ 1024) = false := decide_eq_false (fun h => c1 h.1)
      go_wp2_with fail
      go_meet
      exact ⟨by rw [hd], rfl⟩
  case rest =>
    obtain ⟨rfl, rfl⟩ := hcut
    have HD := Lib.hid (show decide (1 ≤ n ∧ n ≤ 1024) = decide (1 ≤ n ∧ n ≤ 1024) from rfl)
    generalize hb : decide (1 ≤ n ∧ n ≤ 1024) = bb at *
    have HB := Lib.hid hb
    clear hb HD
    go_upto_if 19 with fail
    go_cut [0] (fun p0 wx => ∃ m : Int, p0 = .int .i64 m ∧ (m < 1 ∨ 1024 < m) ∧ wx = wc)
    case first =>
      by_cases c1 : 1 ≤ n ∧ n ≤ 1024
      · have hw : IntKind.i64.wrap (-n) = -n := IntWalk.i64_in _ (by omega)
        obtain rfl : bb = true := by rw [← HB.out]; exact decide_eq_true c1
        go_wp2_with fail
        go_meet
        exact ⟨-n, rfl, .inl (by omega), rfl⟩
      · obtain rfl : bb = false := by rw [← HB.out]; exact decide_eq_false c1
        go_wp2_with fail
        go_meet
        exact ⟨n, rfl, by omega, rfl⟩
    case rest =>
      obtain ⟨m, rfl, hm, rfl⟩ := hcut
      have HAM := Lib.hid (fun w' => HA.out m w' hm)
      clear hm HA
      go_wp2_with fail
      refine (HAM.out _).mono ?_
      rintro e w2 ⟨rfl, hE2⟩
      go_upto_region 7 with fail
      obtain ⟨w3, hw3⟩ : ∃ w3 : World, w3 = w2.alloc (.cells #[.slice none 0 0, .bool false, .slice none 0 0, .bool false, .slice none 0 0] 41) := ⟨_, rfl⟩
      rw [← hw3]
      have hE3 : Ext wc w3 := by rw [hw3]; exact hE2.alloc _
      have hBa : Blk w3 w2.heap.size 41 #[.slice none 0 0, .bool false, .slice none 0 0, .bool false, .slice none 0 0] := by rw [hw3]; exact Blk.newAt _ _ _ rfl
      have HBA := Lib.hid hBa
      clear hw3 hBa hE2
      generalize w2.heap.size = ga at *
      go_wp2_with fail
      refine (HO.out w3).mono ?_
      rintro e w4 ⟨so, Ao, no, co, so', Ao', no', co', rfl, hqo, hE4⟩
      go_upto_region 8 with fail
      obtain ⟨w5, hw5⟩ : ∃ w5 : World, w5 = w4.alloc (.cells #[.slice none 0 0, .bool so, .slice Ao no co, .bool so', .slice Ao' no' co'] 41) := ⟨_, rfl⟩
      rw [← hw5]
      have hE5 : Ext w3 w5 := by rw [hw5]; exact hE4.alloc _
      have hE45 : Ext w4 w5 := by rw [hw5]; exact (Ext.refl _).alloc _
      have hBb : Blk w5 w4.heap.size 41 #[.slice none 0 0, .bool so, .slice Ao no co, .bool so', .slice Ao' no' co'] := by rw [hw5]; exact Blk.newAt _ _ _ rfl
      have HBB := Lib.hid hBb
      have HBA5 := Lib.hid (HBA.out.ext hE5)
      have HQO := Lib.hid (hqo.ext hE45)
      have HE5 := Lib.hid (hE3.trans hE5)
      clear hw5 hqo hBb hE4 hE5 hE45 HBA hE3
      generalize w4.heap.size = gb at *
      have hsum := (SumK_any (.slice none 0 0) (.bool so) (.slice Ao no co) (.bool so') (.slice Ao' no' co') (.slice none 0 0) (.slice none 0 0) [] (mkRat t 1) [] [] w5 (by simp) (by simp) (by simp) (fun x hx => by cases hx) (fun x hx => by cases hx) (fun x hx => by cases hx) (IsParts.nil _) HQO.out ⟨[], RowsOf.nil _ _ _, trivial⟩ (IsNums.nil _)).mono (R' := fun e w' => ∃ (s : Bool) (A : Option Addr) (n c : Nat) (s' : Bool) (A' : Option Addr) (n' c' : Nat) (Am : Option Addr) (cm : Nat), e = .returned (.tuple #[.agg #[.bool s, .slice A n c, .bool s', .slice A' n' c'], .slice Am 0 cm]) ∧ IsRat w' (.bool s) (.slice A n c) (.bool s') (.slice A' n' c') (mkRat 0 1) ∧ Ext w5 w')
        fun e w' ⟨a, b, c, d, m, he, hq, hm, hE⟩ => by
          obtain ⟨h1, h2⟩ := sum_none [] []
          rw [h1] at hq
          rw [h2] at hm
          obtain ⟨s, A, n, c, s', A', n', c', rfl, rfl, rfl, rfl⟩ := hq.form
          obtain ⟨Am, cm, rfl⟩ := hm.shape
          exact ⟨_, _, _, _, _, _, _, _, _, _, he, hq, hE⟩
      have HSUM := Lib.hid hsum
      have f5 := HBB.out.five
      clear hsum
      go_wp2_with fail
      refine HSUM.out.mono ?_
      rintro e w6 ⟨s9, A9, n9, c9, s0, A0, n0, c0, Am, cm, rfl, hq9, hE6⟩
      go_upto_region 9 with fail
      obtain ⟨w7, hw7⟩ : ∃ w7 : World, w7 = w6.alloc (.cells #[.bool s9, .slice A9 n9 c9, .bool s0, .slice A0 n0 c0] 39) := ⟨_, rfl⟩
      rw [← hw7]
      have hE7 : Ext w5 w7 := by rw [hw7]; exact hE6.alloc _
      have hE67 : Ext w6 w7 := by rw [hw7]; exact (Ext.refl _).alloc _
      have hB9 : Blk w7 w6.heap.size 39 #[.bool s9, .slice A9 n9 c9, .bool s0, .slice A0 n0 c0] := by rw [hw7]; exact Blk.newAt _ _ _ rfl
      have HB9 := Lib.hid hB9
      have HQ9 := Lib.hid (hq9.ext hE67)
      have HQ7 := Lib.hid (HQO.out.ext hE7)
      have HBA7 := Lib.hid (HBA5.out.ext hE7)
      have HBB7 := Lib.hid (HBB.out.ext hE7)
      have HE7 := Lib.hid ((hE1.trans HE5.out).trans hE7)
      clear hw7 hq9 hB9 hE6 hE67 HQO HBA5 HBB HSUM f5 hE7 HE5 hE1
      generalize w6.heap.size = g9 at *
      have HK : Hid (∀ w', Ext w7 w' → (w'.cell? ⟨ga, 0, none⟩ = some (.slice none 0 0) ∧ w'.cell? ⟨gb, 0, none⟩ = some (.slice none 0 0) ∧ w'.cell? ⟨gb, 1, none⟩ = some (.bool so) ∧ w'.cell? ⟨gb, 2, none⟩ = some (.slice Ao no co) ∧ w'.cell? ⟨gb, 3, none⟩ = some (.bool so') ∧ w'.cell? ⟨gb, 4, none⟩ = some (.slice Ao' no' co') ∧ w'.cell? ⟨g9, 0, none⟩ = some (.bool s9) ∧ w'.cell? ⟨g9, 1, none⟩ = some (.slice A9 n9 c9) ∧ w'.cell? ⟨g9, 2, none⟩ = some (.bool s0) ∧ w'.cell? ⟨g9, 3, none⟩ = some (.slice A0 n0 c0))) := fun w' k => ⟨(HBA7.out.ext k).cell 0, (HBB7.out.ext k).cell 0, (HBB7.out.ext k).cell 1, (HBB7.out.ext k).cell 2, (HBB7.out.ext k).cell 3, (HBB7.out.ext k).cell 4, (HB9.out.ext k).cell 0, (HB9.out.ext k).cell 1, (HB9.out.ext k).cell 2, (HB9.out.ext k).cell 3⟩
      have HS := Lib.hid (fun (w' : World) (b3 v3 b4 v4 : Value) (k : Ext w7 w') (h : IsRat w' b3 v3 b4 v4 (mkRat 0 1)) => same_one ((HQ9.out).ext k) h rfl (by decide) (by decide))
      obtain ⟨tb, htb⟩ : ∃ tb : Bool, (t == 0) = tb := ⟨_, rfl⟩
      have htd : decide (t = 0) = tb := by rw [← htb]; rfl
      have HHO := Lib.hid (fun (W : World) (k : Ext w7 W) => (HoldsK_any (.slice none 0 0) (.bool so) (.slice Ao no co) (.bool so') (.slice Ao' no' co') (.slice none 0 0) (.slice none 0 0) [] (mkRat t 1) [] [] W (by simp) (by simp) (by simp) (fun x hx => by cases hx) (fun x hx => by cases hx) (fun x hx => by cases hx) (by rw [(mk_one t).1]; omega) (by rw [(mk_one t).2]; omega) (IsParts.nil _) (HQ7.out.ext k) ⟨[], RowsOf.nil _ _ _, trivial⟩ (IsNums.nil _)).mono (R' := fun e w' => e = .returned (.bool tb) ∧ Ext W w')
        fun e w' ⟨he, hE⟩ => ⟨by
          obtain ⟨h1, h2⟩ := sum_none [] []
          rw [he]
          unfold holdsOf
          rw [h1, h2, ← htd]
          have : decide ((0 : Rat) = mkRat t 1) = decide (t = 0) := decide_eq_decide.2 (mk_zero t)
          rw [this]
          rfl, hE⟩)
      have k7 := HK.out w7 (Ext.refl _)
      go_region_held3 (fun w' => w'.cell? ⟨ga, 0, none⟩ = some (.slice none 0 0) ∧ w'.cell? ⟨gb, 0, none⟩ = some (.slice none 0 0) ∧ w'.cell? ⟨gb, 1, none⟩ = some (.bool so) ∧ w'.cell? ⟨gb, 2, none⟩ = some (.slice Ao no co) ∧ w'.cell? ⟨gb, 3, none⟩ = some (.bool so') ∧ w'.cell? ⟨gb, 4, none⟩ = some (.slice Ao' no' co') ∧ w'.cell? ⟨g9, 0, none⟩ = some (.bool s9) ∧ w'.cell? ⟨g9, 1, none⟩ = some (.slice A9 n9 c9) ∧ w'.cell? ⟨g9, 2, none⟩ = some (.bool s0) ∧ w'.cell? ⟨g9, 3, none⟩ = some (.slice A0 n0 c0))
        (first | (refine HK.out _ ?_; (repeat (first | with_reducible assumption | with_reducible exact Ext.refl _ | with_reducible refine Ext.drew ?_ | with_reducible refine Ext.drewN ?_ _ | with_reducible refine Ext.alloc ?_ _ | with_reducible refine Ext.set2 ?_ (by omega) _ _ | with_reducible refine Ext.setCell ?_ (by first | omega | (simp; done) | (simp; omega)) _ | with_reducible refine Ext.trans ?_ (by with_reducible assumption))); done))
        (first | (go_at_call 22; (with_reducible refine (O0_1.out _).mono ?_); rintro e wo ⟨sx, Ax, nx, cx, sx', Ax', nx', cx', rfl, hqx, hex⟩) | (go_at_call 18; (with_reducible refine (HS.out _ _ _ _ _ ?q1 ?q2).mono ?_); (case q1 => (repeat (first | with_reducible assumption | with_reducible exact Ext.refl _ | with_reducible refine Ext.drew ?_ | with_reducible refine Ext.drewN ?_ _ | with_reducible refine Ext.alloc ?_ _ | with_reducible refine Ext.set2 ?_ (by omega) _ _ | with_reducible refine Ext.setCell ?_ (by first | omega | (simp; done) | (simp; omega)) _ | with_reducible refine Ext.trans ?_ (by with_reducible assumption)))); (case q2 => (refine IsRat.ext hqx ?_; (repeat (first | with_reducible assumption | with_reducible exact Ext.refl _ | with_reducible refine Ext.drew ?_ | with_reducible refine Ext.drewN ?_ _ | with_reducible refine Ext.alloc ?_ _ | with_reducible refine Ext.set2 ?_ (by omega) _ _ | with_reducible refine Ext.setCell ?_ (by first | omega | (simp; done) | (simp; omega)) _ | with_reducible refine Ext.trans ?_ (by with_reducible assumption))))); rintro e wn ⟨rfl, hen⟩) | (go_at_call 20; (with_reducible refine (HHO.out _ ?q1).mono ?_); (case q1 => (repeat (first | with_reducible assumption | with_reducible exact Ext.refl _ | with_reducible refine Ext.drew ?_ | with_reducible refine Ext.drewN ?_ _ | with_reducible refine Ext.alloc ?_ _ | with_reducible refine Ext.set2 ?_ (by omega) _ _ | with_reducible refine Ext.setCell ?_ (by first | omega | (simp; done) | (simp; omega)) _ | with_reducible refine Ext.trans ?_ (by with_reducible assumption)))); rintro e wh ⟨rfl, heh⟩))
      go_wp2
      go_ret
      exact ⟨rfl, HE7.out.trans (by (repeat (first | with_reducible assumption | with_reducible exact Ext.refl _ | with_reducible refine Ext.drew ?_ | with_reducible refine Ext.drewN ?_ _ | with_reducible refine Ext.alloc ?_ _ | with_reducible refine Ext.set2 ?_ (by omega) _ _ | with_reducible refine Ext.setCell ?_ (by first | omega | (simp; done) | (simp; omega)) _ | with_reducible refine Ext.trans ?_ (by with_reducible assumption))))⟩

end Go.Proofs.YtddgjlfniabehaaGreatDoor
