/-
  merge.Find, merge.Drop; what merge.Best calls: the closures, slices.ContainsFunc, slices.IndexFunc of numbers.
  merge.Best: its closures, slices.MinFunc of entries.
  merge.Best.
-/
import Derived.Test.YtekipapkcgoieaaGreatDoorJ16a
import Derived.Test.YtekipapkcgoieaaGreatDoorShelf
import Derived.Deep.RegionHeld3
set_option linter.unusedVariables false
set_option linter.unusedSimpArgs false

/- merge.Find, merge.Drop; what merge.Best calls: the closures, slices.ContainsFunc, slices.IndexFunc of numbers. -/
namespace Go.Proofs.YtekipapkcgoieaaGreatDoor
open Go.RowKit
attribute [local go_sem ↓] Go.wp_at_zero Go.wp_at_succ load_entry load_held store_entry store_held build_held build_entry slice_held sub_held

/-! The closures on names. -/
set_option maxRecDepth 100000 in
set_option maxHeartbeats 1000000 in
theorem pred_other (nm : List UInt8) (bn : Nat) (w0 : World) (hs : List HeldD) (hlt : bn < w0.heap.size) (hc : w0.cell? ⟨bn, 0, none⟩ = some (.string ⟨nm.toArray⟩)) : PredH 96 #[.pointer (some ⟨bn, 0, none⟩)] w0 (fun h => !(h.name == nm)) hs := by
  intro W l x hW hx hl
  show Calls _ _ #[.agg l.toArray, .pointer (some ⟨bn, 0, none⟩)] _ _
  have hn := hl.name
  have hl32 := hl.len
  clear hl hx
  obtain ⟨W1, hW1⟩ : ∃ W1 : World, W1 = W.alloc (.cells l.toArray 82) := ⟨_, rfl⟩
  have hE1 : Ext W W1 := by rw [hW1]; exact (Ext.refl _).alloc _
  have hB : Blk W1 W.heap.size 82 l.toArray := by rw [hW1]; exact Blk.newAt _ _ _ rfl
  have c0 : W1.cell? ⟨W.heap.size, 0, none⟩ = some (.string ⟨x.name.toArray⟩) := (hB.cell 0).trans (by simpa using hn)
  have c1 : W1.cell? ⟨bn, 0, none⟩ = some (.string ⟨nm.toArray⟩) := ((hW.trans hE1).cell (p := ⟨bn, 0, none⟩) hlt).trans hc
  clear hc hn
  rw [hW1] at c0 c1
  go_enter Tryz.func96, Tryz.ntmps96
  go_wp2
  go_ret
  exact ⟨by simp, by rw [← hW1]; exact hE1⟩
set_option maxRecDepth 100000 in
set_option maxHeartbeats 1000000 in
theorem pred_same (nm : List UInt8) (bn : Nat) (w0 : World) (hs : List HeldD) (hlt : bn < w0.heap.size) (hc : w0.cell? ⟨bn, 0, none⟩ = some (.string ⟨nm.toArray⟩)) : PredH 59 #[.pointer (some ⟨bn, 0, none⟩)] w0 (fun h => h.name == nm) hs := by
  intro W l x hW hx hl
  show Calls _ _ #[.agg l.toArray, .pointer (some ⟨bn, 0, none⟩)] _ _
  have hn := hl.name
  have hl32 := hl.len
  clear hl hx
  obtain ⟨W1, hW1⟩ : ∃ W1 : World, W1 = W.alloc (.cells l.toArray 82) := ⟨_, rfl⟩
  have hE1 : Ext W W1 := by rw [hW1]; exact (Ext.refl _).alloc _
  have hB : Blk W1 W.heap.size 82 l.toArray := by rw [hW1]; exact Blk.newAt _ _ _ rfl
  have c0 : W1.cell? ⟨W.heap.size, 0, none⟩ = some (.string ⟨x.name.toArray⟩) := (hB.cell 0).trans (by simpa using hn)
  have c1 : W1.cell? ⟨bn, 0, none⟩ = some (.string ⟨nm.toArray⟩) := ((hW.trans hE1).cell (p := ⟨bn, 0, none⟩) hlt).trans hc
  clear hc hn
  rw [hW1] at c0 c1
  go_enter Tryz.func59, Tryz.ntmps59
  go_wp2
  go_ret
  exact ⟨by simp, by rw [← hW1]; exact hE1⟩

/-! Find and Drop. -/
set_option maxRecDepth 100000 in
set_option maxHeartbeats 2000000 in
theorem FindK_any (sv : Value) (nm : List UInt8) (hs : List HeldD) (w : World) (hlen : hs.length ≤ 100000) (h1 : IsShelf w sv hs) :
    Calls Tryz.prog 47 #[.agg #[sv], .string ⟨nm.toArray⟩] w fun e w' => ∃ (v : Value) (w0 : World), e = .returned v ∧ Ext w w0 ∧ Ext w0 w' ∧ OwnHeld w0 w' v (findH hs nm) := by
  obtain ⟨A, c, rfl⟩ := h1.shape
  have H1 := Lib.hid h1
  clear h1
  go_enter Tryz.func47, Tryz.ntmps47
  go_wp2_with fail
  obtain ⟨W, hW⟩ : ∃ W : World, W = (w.alloc (.cells #[.slice A hs.length c] 30)).alloc (.cells #[.string ⟨nm.toArray⟩] 9) := ⟨_, rfl⟩
  rw [← hW]
  have hE : Ext w W := by rw [hW]; exact ((Ext.refl w).alloc _).alloc _
  have hB2 : Blk W (w.heap.size + 1) 9 #[.string ⟨nm.toArray⟩] := by rw [hW]; exact Blk.newAt _ _ _ (by simp)
  clear hW
  refine (CloneH_any _ hs W hlen (H1.out.ext hE)).mono ?_
  rintro e w1 ⟨v1, rfl, hO1, hE1⟩
  have hP := pred_other nm (w.heap.size + 1) W hs hB2.lt (hB2.cell 0)
  have hD := DeleteFuncH_any _ _ _ v1 hs W w1 hlen (enters_of Tryz.func96 (by kernel_rfl) rfl) hP hO1 hE1
  have HD := Lib.hid hD
  clear hD hP hO1
  go_wp2_with fail
  refine HD.out.mono ?_
  rintro e w2 ⟨v2, rfl, hO2, hE2⟩
  have HO := Lib.hid hO2
  clear hO2 HD
  go_wp2
  go_ret
  refine ⟨_, W, rfl, hE, hE2, ?_⟩
  have := HO.out
  simp only [Bool.not_not] at this
  exact this
set_option maxRecDepth 100000 in
set_option maxHeartbeats 2000000 in
theorem DropK_any (sv : Value) (nm : List UInt8) (hs : List HeldD) (w : World) (hlen : hs.length ≤ 100000) (h1 : IsShelf w sv hs) :
    Calls Tryz.prog 21 #[.agg #[sv], .string ⟨nm.toArray⟩] w fun e w' => ∃ v : Value, e = .returned (.agg #[v]) ∧ Ext w w' ∧ IsShelf w' v (hs.filter fun h => !(h.name == nm)) := by
  obtain ⟨A, c, rfl⟩ := h1.shape
  have H1 := Lib.hid h1
  clear h1
  go_enter Tryz.func21, Tryz.ntmps21
  go_wp2_with fail
  obtain ⟨W, hW⟩ : ∃ W : World, W = ((w.alloc (.cells #[.slice A hs.length c] 30)).alloc (.cells #[.string ⟨nm.toArray⟩] 9)).alloc (.cells #[.slice none 0 0] 30) := ⟨_, rfl⟩
  rw [← hW]
  have hE : Ext w W := by rw [hW]; exact (((Ext.refl w).alloc _).alloc _).alloc _
  have hB2 : Blk W (w.heap.size + 1) 9 #[.string ⟨nm.toArray⟩] := by rw [hW]; exact (Blk.newAt _ _ _ (by simp)).alloc _
  have hB3 : Blk W (w.heap.size + 1 + 1) 30 #[.slice none 0 0] := by rw [hW]; exact Blk.newAt _ _ _ (by simp)
  clear hW
  refine (CloneH_any _ hs W hlen (H1.out.ext hE)).mono ?_
  rintro e w1 ⟨v1, rfl, hO1, hE1⟩
  have hP := pred_same nm (w.heap.size + 1) W hs hB2.lt (hB2.cell 0)
  have hD := DeleteFuncH_any _ _ _ v1 hs W w1 hlen (enters_of Tryz.func59 (by kernel_rfl) rfl) hP hO1 hE1
  have HD := Lib.hid hD
  clear hD hP hO1
  go_wp2_with fail
  refine HD.out.mono ?_
  rintro e w2 ⟨v2, rfl, hO2, hE2⟩
  obtain ⟨A2, c2, rfl⟩ := hO2.shape
  have HS := Lib.hid (hO2.shelf hE2)
  have hB := hB3.ext hE2
  have y0 := hB.cell 0
  have y1 := hB.frozen 0
  have y2 := hB.lt
  clear hO2 HD
  go_wp2
  refine bodyPost_ret (v := .agg #[.slice A2 (hs.filter fun h => !(h.name == nm)).length c2]) (by simp [results, Tryz.results21, go_sem, y0, y2]) rfl ?_
  refine ⟨_, rfl, (hE.trans hE2).setCell (by show w.heap.size ≤ w.heap.size + 1 + 1; omega) _, ?_⟩
  exact HS.out.keep (ts := [82, 37, 123, 3]) ((KeepT.refl _ _).set hB.type (by decide) _) (fun _ h => h)

/-! Granted hypotheses. -/
def hasN (g : List Int) (x : Int) : Bool := g.contains x
def lacksN (g : List Int) (x : Int) : Bool := !hasN g x
theorem ContainsN_any (gv : Value) (g : List Int) (x : Int) (w : World) (hl : g.length ≤ 100000000) (h : IsNums w gv g) :
    Calls Tryz.prog 52 #[gv, .int .i64 x] w fun e w' => e = .returned (.bool (hasN g x)) ∧ w = w' := by
  obtain ⟨A, c, rfl⟩ := h.shape
  cases g with
  | nil => exact (Tryz.slices_Contains_int_empty A c x w).mono fun _ _ ⟨he, hw⟩ => ⟨he, hw.symm⟩
  | cons y r =>
    obtain ⟨b, o, rfl, -, -⟩ := h.at 0 (by simp)
    refine (Tryz.slices_Contains_int b o (y :: r).length c (y :: r) x w (Nat.le_refl _) (by omega) ?_).mono fun _ _ ⟨he, hw⟩ => ⟨by rw [he, List.take_length]; rfl, hw.symm⟩
    intro j hj
    obtain ⟨b', o', e, -, hc⟩ := h.at j hj
    injection e with e; injection e with e1 e2; subst e1 e2
    rw [hc w (KeepT.refl _ _), List.getD_eq_getElem?_getD, List.getElem?_eq_getElem hj]
    rfl
set_option maxHeartbeats 1000000 in
theorem lacks_any (gv : Value) (g : List Int) (gb : Nat) (x : Int) (w : World) (hl : g.length ≤ 100000000) (h : IsNums w gv g) (hc : w.cell? ⟨gb, 0, none⟩ = some gv) :
    Calls Tryz.prog 51 #[.int .i64 x, .pointer (some ⟨gb, 0, none⟩)] w fun e w' => e = .returned (.bool (lacksN g x)) ∧ w = w' := by
  obtain ⟨A, c, rfl⟩ := h.shape
  have H := Lib.hid h
  clear h
  go_enter Tryz.func51, Tryz.ntmps51
  go_wp2_with (go_at_call 52; refine (ContainsN_any _ g x _ hl H.out).mono ?_; rintro e w' ⟨rfl, rfl⟩)
  go_ret
  exact ⟨rfl, rfl⟩
set_option maxRecDepth 100000 in
set_option maxHeartbeats 1000000 in
theorem IndexN_any (gv hv : Value) (g hy : List Int) (gb : Nat) (w : World) (hl : g.length ≤ 100000000) (hyl : hy.length ≤ 100000000) (h : IsNums w gv g) (h2 : IsNums w hv hy) (hc : w.cell? ⟨gb, 0, none⟩ = some gv) :
    Calls Tryz.prog 98 #[hv, .func (.func 51) #[] #[.pointer (some ⟨gb, 0, none⟩)]] w fun e w' => e = .returned (.int .i64 (idxOf (lacksN g) hy)) ∧ w = w' := by
  obtain ⟨A, c, rfl⟩ := h2.shape
  have H := Lib.hid h
  have H2 := Lib.hid h2
  have HC := Lib.hid hc
  clear h h2 hc
  go_enter Tryz.func98, Tryz.ntmps98
  go_wp2_with fail
  go_loop [5, 8] (fun _ t => ∃ k : Nat, k ≤ hy.length ∧ t = .int .i64 (k : Int) ∧ Hid (∀ j (hj : j < hy.length), j < k → lacksN g hy[j] = false)) (fun _ t => hy.length - (intOf t).toNat)
  case atStart => exact ⟨0, Nat.zero_le _, rfl, (fun j _ hj => absurd hj (Nat.not_lt_zero _))⟩
  case round =>
    obtain ⟨k, hk, rfl, hb⟩ := hrel
    by_cases hlt : k < hy.length
    · obtain ⟨b, o, rfl, -, hr⟩ := H2.out.at k hlt
      have hcell := hr w (KeepT.refl _ _)
      have hcall := lacks_any gv g gb hy[k] w hl H.out HC.out
      have HH := Lib.hid (fun h => idxOf_hit (lacksN g) hy k hlt h hb.out)
      have HB2 := Lib.hid (show lacksN g hy[k] = false → ∀ j (hj : j < hy.length), j < k + 1 → lacksN g hy[j] = false from fun h j hj hjk => by
        by_cases e : j = k
        · subst e; exact h
        · exact hb.out j hj (by omega))
      clear hr
      generalize hx : hy[k] = x at *
      cases hq : lacksN g x with
      | true =>
        rw [hq] at hcall
        have HI := Lib.hid (HH.out hq)
        clear HH HB2 hq hx
        go_wp2_with (go_at_call 51; refine hcall.mono ?_; rintro e w' ⟨rfl, rfl⟩)
        go_ret
        exact ⟨by rw [HI.out]; rfl, rfl⟩
      | false =>
        rw [hq] at hcall
        have HB := Lib.hid (HB2.out hq)
        clear HH HB2 hq hx
        go_wp2_with (go_at_call 51; refine hcall.mono ?_; rintro e w' ⟨rfl, rfl⟩)
        go_round
        case rel => exact ⟨k + 1, by omega, by go_num, HB⟩
        case measure => (simp [intOf] <;> omega)
    · have hkl : k = hy.length := by omega
      have HI := Lib.hid (idxOf_miss (lacksN g) hy fun j hj => hb.out j hj (by omega))
      go_wp2
      go_ret
      exact ⟨by rw [HI.out]; rfl, rfl⟩
theorem idx_within (g hy : List Int) : decide (0 ≤ idxOf (lacksN g) hy) = !within hy g := by
  unfold idxOf within
  cases h : hy.findIdx? (lacksN g) with
  | none =>
    have := List.findIdx?_eq_none_iff.1 h
    have h2 : hy.all (fun n => g.contains n) = true := List.all_eq_true.2 fun x hx => by simpa [lacksN, hasN] using this x hx
    rw [h2]; rfl
  | some i =>
    obtain ⟨hi, h1, _⟩ := List.findIdx?_eq_some_iff_getElem.1 h
    have h2 : hy.all (fun n => g.contains n) = false := List.all_eq_false.2 ⟨_, List.getElem_mem hi, by simpa [lacksN, hasN] using h1⟩
    rw [h2]
    simp
theorem idxOf_bd {α : Type} (p : α → Bool) (hs : List α) : -1 ≤ idxOf p hs ∧ idxOf p hs ≤ hs.length := by
  unfold idxOf
  split
  · omega
  · rename_i i h
    obtain ⟨hi, _⟩ := List.findIdx?_eq_some_iff_getElem.1 h
    omega
set_option maxHeartbeats 1000000 in
theorem ContainsFuncN_any (gv hv : Value) (g hy : List Int) (gb : Nat) (w : World) (hl : g.length ≤ 100000000) (hyl : hy.length ≤ 100000000) (h : IsNums w gv g) (h2 : IsNums w hv hy) (hc : w.cell? ⟨gb, 0, none⟩ = some gv) :
    Calls Tryz.prog 50 #[hv, .func (.func 51) #[] #[.pointer (some ⟨gb, 0, none⟩)]] w fun e w' => e = .returned (.bool (!within hy g)) ∧ w = w' := by
  have hI := IndexN_any gv hv g hy gb w hl hyl h h2 hc
  obtain ⟨A, c, rfl⟩ := h2.shape
  rw [← idx_within]
  generalize idxOf (lacksN g) hy = z at *
  clear h h2 hc
  go_enter Tryz.func50, Tryz.ntmps50
  go_wp2_with (go_at_call 98; refine hI.mono ?_; rintro e w' ⟨rfl, rfl⟩)
  go_ret
  exact ⟨by simp, rfl⟩

end Go.Proofs.YtekipapkcgoieaaGreatDoor

/- merge.Best: its closures, slices.MinFunc of entries. -/
namespace Go.Proofs.YtekipapkcgoieaaGreatDoor
open Go.RowKit
attribute [local go_sem ↓] Go.wp_at_zero Go.wp_at_succ load_entry load_held store_entry store_held build_held build_entry slice_held sub_held

/-! The first of the least. -/
def minF (m y : HeldD) : HeldD := if y.hyps.length < m.hyps.length then y else m
def minH : List HeldD → Option HeldD
  | [] => none
  | x :: r => some (r.foldl minF x)
theorem bestFold (g : List Int) : ∀ (l : List HeldD) (b : Option HeldD), l.foldl (bestStep g) b = match b with
    | none => minH (l.filter fun h => within h.hyps g)
    | some m => some ((l.filter fun h => within h.hyps g).foldl minF m)
  | [], none => rfl
  | [], some _ => rfl
  | x :: l, none => by
    rw [List.foldl_cons, bestFold g l, List.filter_cons]
    by_cases h : within x.hyps g = true
    · simp [bestStep, h, minH]
    · simp [bestStep, h]
  | x :: l, some m => by
    rw [List.foldl_cons, bestFold g l, List.filter_cons]
    by_cases h : within x.hyps g = true
    · by_cases h2 : x.hyps.length < m.hyps.length <;> simp [bestStep, h, minF, h2]
    · simp [bestStep, h]
theorem bestOf_min (g : List Int) (l : List HeldD) : bestOf g l = minH (l.filter fun h => within h.hyps g) := bestFold g l none
/-- The least of the first k + 1. -/
def minAt (l : List HeldD) (k : Nat) : Option HeldD := minH (l.take (k + 1))
theorem minAt_succ (l : List HeldD) (k : Nat) (hk : k + 1 < l.length) (m : HeldD) (h : minAt l k = some m) : minAt l (k + 1) = some (minF m l[k + 1]) := by
  unfold minAt at h ⊢
  rw [List.take_succ_eq_append_getElem hk]
  cases l with
  | nil => simp at hk
  | cons x r =>
    rw [List.take_succ_cons] at h ⊢
    simp only [minH, Option.some.injEq] at h
    rw [List.cons_append]
    simp only [minH, List.foldl_append, List.foldl_cons, List.foldl_nil, h]
theorem minAt_zero (l : List HeldD) (h : 0 < l.length) : minAt l 0 = some l[0] := by
  cases l with
  | nil => simp at h
  | cons x r => rfl
theorem minAt_last (l : List HeldD) (k : Nat) (h : l.length ≤ k + 1) : minAt l k = minH l := by
  unfold minAt
  rw [List.take_of_length_le h]

/-! The closures. -/
set_option maxRecDepth 100000 in
set_option maxHeartbeats 1000000 in
theorem pred_within (gv : Value) (g : List Int) (gb : Nat) (w0 : World) (hs : List HeldD) (hgl : g.length ≤ 100000000) (hyl : ∀ h ∈ hs, h.hyps.length ≤ 100000000) (h1 : IsNums w0 gv g) (hlt : gb < w0.heap.size) (hc : w0.cell? ⟨gb, 0, none⟩ = some gv) :
    PredH 49 #[.pointer (some ⟨gb, 0, none⟩)] w0 (fun h => !within h.hyps g) hs := by
  intro W l x hW hx hl
  show Calls _ _ #[.agg l.toArray, .pointer (some ⟨gb, 0, none⟩)] _ fun e w' => e = .returned (.bool (!within x.hyps g)) ∧ Ext W w'
  obtain ⟨A2, c2, hh1, hh2⟩ := hl.hyps
  have hxl := hyl x hx
  obtain ⟨W1, hW1⟩ : ∃ W1 : World, W1 = W.alloc (.cells l.toArray 82) := ⟨_, rfl⟩
  have hE1 : Ext W W1 := by rw [hW1]; exact (Ext.refl _).alloc _
  have hB : Blk W1 W.heap.size 82 l.toArray := by rw [hW1]; exact Blk.newAt _ _ _ rfl
  have c0 : W1.cell? ⟨W.heap.size, 30, none⟩ = some (.slice A2 x.hyps.length c2) := (hB.cell 30).trans (by simpa using hh1)
  have hC := ContainsFuncN_any gv (.slice A2 x.hyps.length c2) g x.hyps gb W1 hgl hxl (h1.ext (hW.trans hE1)) (hh2.ext (hW.trans hE1)) (((hW.trans hE1).cell (p := ⟨gb, 0, none⟩) hlt).trans hc)
  have HC := Lib.hid hC
  clear hc hh1 hh2 h1 hl hx hyl hC
  rw [hW1] at c0
  generalize within x.hyps g = q at *
  go_enter Tryz.func49, Tryz.ntmps49
  go_wp2_with (go_at_call 50; rw [← hW1]; refine HC.out.mono ?_; rintro e w' ⟨rfl, rfl⟩)
  go_ret
  exact ⟨rfl, (Ext.refl _).alloc _⟩
set_option maxRecDepth 100000 in
set_option maxHeartbeats 1000000 in
theorem cmpH_any (la lb : List Value) (a b : HeldD) (w0 W : World) (ha : a.hyps.length ≤ 100000000) (hb : b.hyps.length ≤ 100000000) (h1 : IsHeld w0 la a) (h2 : IsHeld w0 lb b) :
    Calls Tryz.prog 54 #[.agg la.toArray, .agg lb.toArray] W fun e w' => e = .returned (.int .i64 ((a.hyps.length : Int) - (b.hyps.length : Int))) ∧ Ext W w' := by
  obtain ⟨A2, c2, hh1, -⟩ := h1.hyps
  obtain ⟨A3, c3, hh2, -⟩ := h2.hyps
  obtain ⟨W1, hW1⟩ : ∃ W1 : World, W1 = (W.alloc (.cells la.toArray 82)).alloc (.cells lb.toArray 82) := ⟨_, rfl⟩
  have hE1 : Ext W W1 := by rw [hW1]; exact ((Ext.refl _).alloc _).alloc _
  have hB : Blk W1 W.heap.size 82 la.toArray := by rw [hW1]; exact (Blk.newAt _ _ _ rfl).alloc _
  have hB2 : Blk W1 (W.heap.size + 1) 82 lb.toArray := by rw [hW1]; exact Blk.newAt _ _ _ (by simp)
  have c0 : W1.cell? ⟨W.heap.size, 30, none⟩ = some (.slice A2 a.hyps.length c2) := (hB.cell 30).trans (by simpa using hh1)
  have c1 : W1.cell? ⟨W.heap.size + 1, 30, none⟩ = some (.slice A3 b.hyps.length c3) := (hB2.cell 30).trans (by simpa using hh2)
  clear hh1 hh2 h1 h2
  rw [hW1] at c0 c1
  go_enter Tryz.func54, Tryz.ntmps54
  go_wp2
  go_ret
  exact ⟨rfl, by rw [← hW1]; exact hE1⟩

theorem minF_mem {m y : HeldD} {hs : List HeldD} (hm : m ∈ hs) (hy : y ∈ hs) : minF m y ∈ hs := by
  unfold minF; split
  · exact hy
  · exact hm
set_option maxRecDepth 100000 in
set_option maxHeartbeats 4000000 in
theorem MinFuncH_any (v : Value) (hs : List HeldD) (w0 w : World) (hlen : hs.length ≤ 100000) (hyl : ∀ h ∈ hs, h.hyps.length ≤ 100000000) (h0 : 0 < hs.length) (hO : OwnHeld w0 w v hs) (hE : Ext w0 w) :
    Calls Tryz.prog 53 #[v, .func (.func 54) #[] #[]] w fun e w' => ∃ (m : HeldD) (lm : List Value), e = .returned (.agg lm.toArray) ∧ minH hs = some m ∧ m ∈ hs ∧ IsHeld w0 lm m ∧ Ext w w' := by
  obtain ⟨A, c, rfl⟩ := hO.shape
  obtain ⟨N, hN⟩ : ∃ N : Nat, hs.length = N := ⟨_, rfl⟩
  have HN := Lib.hid hN
  have HO := Lib.hid hO
  have HY := Lib.hid hyl
  have hat0 := hO.at 0 h0
  have HM0 := Lib.hid (minAt_zero hs h0)
  have hm0 := List.getElem_mem h0
  rw [hN] at h0 hlen ⊢
  generalize hs[0]'(by omega) = m0 at *
  obtain ⟨b, o, l0, rfl, hl0, hr0⟩ := hat0
  have hn1 : ¬ (N : Int) < 1 := by omega
  clear hyl hO hN
  go_enter Tryz.func53, Tryz.ntmps53
  go_upto_region 3 with fail
  change Code.wp _ _ _ _ (w.alloc (.cells held0.toArray 82))
  obtain ⟨W, hW⟩ : ∃ W : World, W = w.alloc (.cells held0.toArray 82) := ⟨_, rfl⟩
  rw [← hW]
  have hEw : Ext w W := by rw [hW]; exact (Ext.refl _).alloc _
  have hBr : Blk W w.heap.size 82 held0.toArray := by rw [hW]; exact Blk.newAt _ _ _ rfl
  have hld0 : (bigLoad 82 (.pointer (some ⟨b, o, none⟩))).run Tryz.prog W = .ok (.agg l0.toArray) W := run_load_held W b o l0 hl0.len (by have := hr0 W hEw; rwa [Nat.zero_mul, Nat.add_zero] at this)
  have rs := run_store_held (W.alloc (.cells held0.toArray 82)) W.heap.size 0 l0 hl0.len ((Blk.newAt W 82 held0.toArray rfl).there rfl) hl0.one
  unfold held0 at rs
  clear hW hr0
  go_upto_region 4 with fail
  change Code.wp _ _ _ _ ((W.alloc (.cells held0.toArray 82)).setCells W.heap.size 0 l0)
  obtain ⟨w2, hw2⟩ : ∃ w2 : World, w2 = (W.alloc (.cells held0.toArray 82)).setCells W.heap.size 0 l0 := ⟨_, rfl⟩
  rw [← hw2]
  have hE2 : Ext W w2 := by rw [hw2]; exact ((Ext.refl _).alloc _).setCells l0 (Nat.le_refl _) 0
  have hBm : Blk w2 W.heap.size 82 l0.toArray := by rw [hw2]; exact (Blk.newAt W 82 held0.toArray rfl).setAll hl0.len
  obtain ⟨gm, hgm⟩ : ∃ gm : Nat, W.heap.size = gm := ⟨_, rfl⟩
  have HGM := Lib.hid hgm
  rw [hgm] at hBm ⊢
  have HL0 := Lib.hid hl0
  have HB0 := Lib.hid hBm
  clear hw2 rs hld0 hl0 hgm hBm
  go_wp2_with fail
  go_loopw [6] (fun t wr => ∃ (k : Nat) (m : HeldD) (lm : List Value), t = .int .i64 ((k : Int) + 1) ∧ k + 1 ≤ N ∧ m ∈ hs ∧ Hid (minAt hs k = some m) ∧ Hid (IsHeld w0 lm m) ∧ Hid (Blk wr gm 82 lm.toArray) ∧ Ext W wr) (fun t _ => N + 1 - (intOf t).toNat)
  case atStart => exact ⟨0, m0, l0, rfl, by omega, hm0, HM0, HL0, HB0, hE2⟩
  case round =>
    obtain ⟨k, m, lm, rfl, hk, hm, hM, hlm, hB, hEr⟩ := hrel
    have hlm32 := hlm.out.len
    have hml := HY.out m hm
    by_cases hlt : k + 1 < N
    · obtain ⟨b', o', l, e3, hl, hr⟩ := HO.out.at (k + 1) (by rw [HN.out]; exact hlt)
      injection e3 with e3; injection e3 with e3 e4; subst e3 e4
      have hx := List.getElem_mem (show k + 1 < hs.length by rw [HN.out]; exact hlt)
      have HMS := Lib.hid (minAt_succ hs k (by rw [HN.out]; exact hlt) m hM.out)
      generalize hs[k + 1]'(by rw [HN.out]; exact hlt) = x at *
      have hxl := HY.out x hx
      obtain ⟨d, hd⟩ : ∃ d : Int, (x.hyps.length : Int) - (m.hyps.length : Int) = d := ⟨_, rfl⟩
      have HCM := Lib.hid (fun w' : World => cmpH_any l lm x m w0 w' hxl hml hl hlm.out)
      rw [hd] at HCM
      have HMF := Lib.hid (show minF m x = if d < 0 then x else m by
        unfold minF
        by_cases h : x.hyps.length < m.hyps.length
        · rw [if_pos h, if_pos (by omega)]
        · rw [if_neg h, if_neg (by omega)])
      have hl32 := hl.len
      have hld1 : ∀ w', Ext wr w' → (bigLoad 82 (.pointer (some ⟨b, o + (k + 1) * 32, none⟩))).run Tryz.prog w' = .ok (.agg l.toArray) w' := fun w' h => run_load_held w' _ _ l hl32 (hr w' (hEw.trans (hEr.trans h)))
      have hld2 : ∀ w', Ext wr w' → (bigLoad 82 (.pointer (some ⟨gm, 0, none⟩))).run Tryz.prog w' = .ok (.agg lm.toArray) w' := fun w' h => run_load_held w' _ _ lm hlm32 (hB.out.ext h).range
      have HLX := Lib.hid hl
      have hi1 : (k : Int) + 1 < (N : Int) := by omega
      have hi0 : (0 : Int) ≤ (k : Int) + 1 := by omega
      have hi2 : ((k : Int) + 1).toNat = k + 1 := by omega
      have hi3 : IntKind.i64.wrap ((k : Int) + 1) = (k : Int) + 1 := by rw [IntKind.wrap_i64]; omega
      clear hl hr hd
      have HK : Hid (∀ w', Ext wr w' → Ext wr w') := fun w' h => h
      go_wp2_with fail
      go_region_held3 (fun w' => Ext wr w')
        (first | (refine HK.out _ ?_; (repeat (first | with_reducible assumption | with_reducible exact Ext.refl _ | with_reducible refine Ext.drew ?_ | with_reducible refine Ext.drewN ?_ _ | with_reducible refine Ext.alloc ?_ _ | with_reducible refine Ext.set2 ?_ (by omega) _ _ | with_reducible refine Ext.setCell ?_ (by first | omega | (simp; done) | (simp; omega)) _ | with_reducible refine Ext.trans ?_ (by with_reducible assumption))); done))
        (first | (go_at_call 54; (with_reducible refine (HCM.out _).mono ?_); rintro e w3 ⟨rfl, he3⟩))
      have hE3 : Ext wr w3 := by (repeat (first | with_reducible assumption | with_reducible exact Ext.refl _ | with_reducible refine Ext.drew ?_ | with_reducible refine Ext.drewN ?_ _ | with_reducible refine Ext.alloc ?_ _ | with_reducible refine Ext.set2 ?_ (by omega) _ _ | with_reducible refine Ext.setCell ?_ (by first | omega | (simp; done) | (simp; omega)) _ | with_reducible refine Ext.trans ?_ (by with_reducible assumption)))
      have hB3 := Lib.hid (hB.out.ext hE3)
      by_cases hd0 : d < 0
      · have rs3 := run_store_held w3 gm 0 l hl32 (hB3.out.there hlm32.symm) HLX.out.one
        have hld3 := hld1 w3 hE3
        have HMS2 := Lib.hid (show minAt hs (k + 1) = some x by rw [HMS.out, HMF.out, if_pos hd0])
        have hgb := hE2.size'
        have HBn := Lib.hid (hB3.out.setAll (l := l) (by rw [hl32, hlm32]))
        have hgW := HGM.out
        have HEn := Lib.hid ((hEr.trans hE3).setCells (g := gm) l (by omega) 0)
        clear hld1 hld2 HMS HMF hgW
        go_wp2
        go_roundw
        case rel => exact ⟨k + 1, x, l, by go_num, by omega, hx, HMS2, HLX, HBn, HEn.out⟩
        case measure => (simp [intOf] <;> omega)
      · have HMS2 := Lib.hid (show minAt hs (k + 1) = some m by rw [HMS.out, HMF.out, if_neg hd0])
        clear hld1 hld2 HMS HMF
        go_wp2
        go_roundw
        case rel => exact ⟨k + 1, m, lm, by go_num, by omega, hm, HMS2, hlm, hB3, hEr.trans hE3⟩
        case measure => (simp [intOf] <;> omega)
    · have hkn : k + 1 = N := by omega
      have HMM := Lib.hid (show minH hs = some m by rw [← hM.out]; exact (minAt_last hs k (by rw [HN.out]; omega)).symm)
      have hld2 := run_load_held wr gm 0 lm hlm32 hB.out.range
      have hBr2 := hBr.ext hEr
      have rs4 := run_store_held wr w.heap.size 0 lm hlm32 (hBr2.there rfl) hlm.out.one
      have hblk := (hBr2.setAll (l := lm) (by rw [hlm32, held0_len])).range
      have HBk := Lib.hid hblk
      have hn2 : ¬ ((k : Int) + 1 < (N : Int)) := by omega
      clear hblk hBr hBr2
      go_wp2
      refine bodyPost_ret (v := .agg lm.toArray) (results_struct1 (ty := 82) rfl _ _ w.heap.size 0 lm _ rfl HBk.out Tryz.underlying82 rfl (by rw [hlm32]; exact info_held)) rfl ?_
      exact ⟨m, lm, rfl, HMM.out, hm, hlm.out, (hEw.trans hEr).setCells lm (Nat.le_refl _) 0⟩

end Go.Proofs.YtekipapkcgoieaaGreatDoor

/- merge.Best. -/
namespace Go.Proofs.YtekipapkcgoieaaGreatDoor
open Go.RowKit
attribute [local go_sem ↓] Go.wp_at_zero Go.wp_at_succ load_entry load_held store_entry store_held build_held build_entry slice_held sub_held

def bigField (t : TypeId) (v : Value) (i : Nat) : Sem Value := Instr.field t v i
theorem field_held (v : Value) (i : Nat) : Instr.field 82 v i = bigField 82 v i := rfl
theorem run_field_held (w : World) (l : List Value) (h : l.length = 32) : (bigField 82 (.agg l.toArray) 0).run Tryz.prog w = .ok (.agg (l.take 31).toArray) w := by
  unfold bigField Instr.field
  simp [go_sem, h, asAgg, Result.andThen]
attribute [local go_sem ↓] field_held

set_option maxRecDepth 100000 in
set_option maxHeartbeats 4000000 in
theorem BestK_any (sv gv : Value) (nm : List UInt8) (hs : List HeldD) (g : List Int) (w : World) (hlen : hs.length ≤ 100000) (hgl : g.length ≤ 100000000) (hyl : ∀ h ∈ hs, h.hyps.length ≤ 100000000) (h1 : IsShelf w sv hs) (h2 : IsNums w gv g) :
    Calls Tryz.prog 19 #[.agg #[sv], .string ⟨nm.toArray⟩, gv] w (RBest w (best hs nm g)) := by
  obtain ⟨A, c, rfl⟩ := h1.shape
  obtain ⟨Ag, cg, rfl⟩ := h2.shape
  have H1 := Lib.hid h1
  have H2 := Lib.hid h2
  have hfm : ∀ h ∈ findH hs nm, h ∈ hs := fun h hh => (List.mem_filter.1 hh).1
  have HFY : Hid (∀ h ∈ findH hs nm, h.hyps.length ≤ 100000000) := fun h hh => hyl h (hfm h hh)
  have HFL : Hid ((findH hs nm).length ≤ 100000) := Nat.le_trans (findH_len hs nm) hlen
  have HB := Lib.hid (show best hs nm g = minH ((findH hs nm).filter fun h => !!within h.hyps g) by unfold best; rw [bestOf_min]; simp)
  clear h1 h2 hyl hfm
  go_enter Tryz.func19, Tryz.ntmps19
  go_wp2_with fail
  change Calls _ _ _ (((w.alloc (.cells #[.slice A hs.length c] 30)).alloc (.cells #[.slice Ag g.length cg] 32)).alloc (.cells entry0.toArray 77)) _
  obtain ⟨W, hW⟩ : ∃ W : World, W = ((w.alloc (.cells #[.slice A hs.length c] 30)).alloc (.cells #[.slice Ag g.length cg] 32)).alloc (.cells entry0.toArray 77) := ⟨_, rfl⟩
  rw [← hW]
  have hE : Ext w W := by rw [hW]; exact (((Ext.refl w).alloc _).alloc _).alloc _
  have hBg : Blk W (w.heap.size + 1) 32 #[.slice Ag g.length cg] := by rw [hW]; exact (Blk.newAt _ _ _ (by simp)).alloc _
  have hBr : Blk W (w.heap.size + 1 + 1) 77 entry0.toArray := by rw [hW]; exact Blk.newAt _ _ _ (by simp)
  clear hW
  refine (FindK_any _ nm hs W hlen (H1.out.ext hE)).mono ?_
  rintro e w1 ⟨v1, w0, rfl, hE0, hE1, hO1⟩
  have hP := pred_within (.slice Ag g.length cg) g (w.heap.size + 1) w0 (findH hs nm) hgl HFY.out (H2.out.ext (hE.trans hE0)) (hBg.ext hE0).lt ((hBg.ext hE0).cell 0)
  have hD := DeleteFuncH_any _ _ _ v1 (findH hs nm) w0 w1 HFL.out (enters_of Tryz.func49 (by kernel_rfl) rfl) hP hO1 hE1
  have HD := Lib.hid hD
  clear hD hP hO1
  go_wp2_with fail
  refine HD.out.mono ?_
  rintro e w2 ⟨v2, rfl, hO2, hE2⟩
  obtain ⟨fl, hfl⟩ : ∃ fl : List HeldD, ((findH hs nm).filter fun h => !!within h.hyps g) = fl := ⟨_, rfl⟩
  have hfy : ∀ h ∈ fl, h.hyps.length ≤ 100000000 := fun h hh => HFY.out h (by rw [← hfl] at hh; exact (List.mem_filter.1 hh).1)
  have hflen : fl.length ≤ 100000 := by rw [← hfl]; exact Nat.le_trans (List.length_filter_le _ _) HFL.out
  have HB2 := HB.out
  rw [hfl] at HB2 hO2
  have HB3 := Lib.hid HB2
  have hx2 : Ext W w2 := hE0.trans hE2
  have hBr2 := hBr.ext hx2
  clear HB HB2 HD HFY HFL hfl hBr
  obtain ⟨A2, c2, rfl⟩ := hO2.shape
  by_cases h0 : fl.length = 0
  · have : fl = [] := List.eq_nil_of_length_eq_zero h0
    subst this
    have rne := run_no_entry
    have rs := run_store_entry w2 (w.heap.size + 1 + 1) 0 entry0 rfl (hBr2.there rfl) entry0_one
    have HBk := Lib.hid (hBr2.setAll (l := entry0) rfl).range
    clear h0 hO2 hBr2 hfy hflen
    go_wp2
    refine bodyPost_ret (v := .tuple #[.agg entry0.toArray, .bool false]) (results_struct2 (ty := 77) rfl _ _ (w.heap.size + 1 + 1) 0 entry0 _ (.bool false) rfl rfl HBk.out Tryz.underlying77 rfl info_entry) rfl ?_
    rw [HB3.out]
    exact ⟨entry0, rfl, rfl, entry0_one, (fun x hx => by cases hx), (hE.trans hx2).setCells _ (by omega) _⟩
  · have hne : ((fl.length : Int) == 0) = false := beq_eq_false_iff_ne.2 (by omega)
    have HM := Lib.hid (MinFuncH_any _ fl w0 w2 hflen hfy (by omega) hO2 hE2)
    clear hO2 hfy
    go_wp2_with fail
    refine HM.out.mono ?_
    rintro e w3 ⟨m, lm, rfl, hm1, hm2, hm3, hE3⟩
    have hl32 := hm3.len
    have rf := fun w' => run_field_held w' lm hl32
    have hBr3 := hBr2.ext hE3
    have hen := Lib.hid hm3.entry
    have hel := hm3.entry.len
    have HB4 := Lib.hid (show best hs nm g = some m by rw [HB3.out, hm1])
    generalize lm.take 31 = le at *
    have rs := run_store_entry w3 (w.heap.size + 1 + 1) 0 le hel (hBr3.there rfl) hen.out.2.1
    have HBk := Lib.hid (hBr3.setAll (l := le) hel).range
    have HTy := Lib.hid hBr3.type
    clear hm1 hm2 hm3 hBr2 hBr3 HB3 HM hl32
    go_wp2
    refine bodyPost_ret (v := .tuple #[.agg le.toArray, .bool true]) (results_struct2 (ty := 77) rfl _ _ (w.heap.size + 1 + 1) 0 le _ (.bool true) rfl rfl HBk.out Tryz.underlying77 rfl (by rw [hel]; exact info_entry)) rfl ?_
    rw [HB4.out]
    refine ⟨le, rfl, hel, hen.out.2.1, (fun x hx => ?_), ((hE.trans hx2).trans hE3).setCells _ (by omega) _⟩
    injection hx with hx; subst hx
    exact (hen.out.ext (hE2.trans hE3)).keep (ts := [37, 123, 3]) ((KeepT.refl _ _).setCells (by decide) _ HTy.out _) (fun _ h => h)

end Go.Proofs.YtekipapkcgoieaaGreatDoor
