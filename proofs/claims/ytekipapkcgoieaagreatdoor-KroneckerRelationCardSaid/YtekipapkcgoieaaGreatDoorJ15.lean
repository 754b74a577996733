/-
  R38.Sum.
-/
import Derived.Test.YtekipapkcgoieaaGreatDoorJ14
import Derived.Test.YtekipapkcgoieaaGreatDoorJ10
import Derived.Test.YtekipapkcgoieaaGreatDoorJ07
import Derived.Deep.RegionLaw
set_option linter.unusedVariables false
set_option linter.unusedSimpArgs false

/- R38.Sum. -/
namespace Go.Proofs.YtekipapkcgoieaaGreatDoor
open Go.RowKit
attribute [local go_sem ↓] Go.wp_at_zero Go.wp_at_succ

/-- A part of an audit: twelfths. -/
structure PartTw (p : PartD) : Prop where
  c : Tw 1000 p.c
  val : p.v.natAbs ≤ 1000000000
theorem PartTw.ok {p : PartD} (h : PartTw p) : PartOk p := ⟨Nat.le_trans h.c.num (by decide), Nat.le_trans h.c.den (by decide), h.val⟩
def sumVal (hs : List HeldD) (g : List Int) (ps : List PartD) : Rat := ps.foldl (fun s p => s + (partVal (best hs p.name g) p).getD 0) 0
def sumMissR (hs : List HeldD) (g : List Int) (ps : List PartD) : List (List UInt8) := ps.foldl (fun m p => if (partVal (best hs p.name g) p).isSome then m else sortedOf (m ++ [p.name])) []
theorem sumVal_succ (hs : List HeldD) (g : List Int) (ps : List PartD) (k : Nat) (hk : k < ps.length) : sumVal hs g (ps.take (k + 1)) = sumVal hs g (ps.take k) + (partVal (best hs ps[k].name g) ps[k]).getD 0 := by
  unfold sumVal
  rw [List.take_succ_eq_append_getElem hk, List.foldl_append]; rfl
theorem sumMissR_succ (hs : List HeldD) (g : List Int) (ps : List PartD) (k : Nat) (hk : k < ps.length) : sumMissR hs g (ps.take (k + 1)) = if (partVal (best hs ps[k].name g) ps[k]).isSome then sumMissR hs g (ps.take k) else sortedOf (sumMissR hs g (ps.take k) ++ [ps[k].name]) := by
  unfold sumMissR
  rw [List.take_succ_eq_append_getElem hk, List.foldl_append]; rfl
theorem strs_snoc {base : Nat} {w : World} {v : Value} {ms : List (List UInt8)} {nm : List UInt8} (h : w.ownsRow base 9 1 v ((cellsS ms).length + 1) ((cellsS ms).flatten ++ [Value.string ⟨nm.toArray⟩])) : OwnStrs base w v (ms ++ [nm]) := by
  unfold OwnStrs
  have e : cellsS (ms ++ [nm]) = cellsS ms ++ [[Value.string ⟨nm.toArray⟩]] := by simp [cellsS]
  rw [e, List.flatten_append, List.length_append]
  exact h
theorem sumMissR_len (hs : List HeldD) (g : List Int) (ps : List PartD) : (sumMissR hs g ps).length ≤ ps.length := by
  have key : ∀ (ps : List PartD) (m : List (List UInt8)), (ps.foldl (fun m p => if (partVal (best hs p.name g) p).isSome then m else sortedOf (m ++ [p.name])) m).length ≤ m.length + ps.length := by
    intro ps
    induction ps with
    | nil => intro m; exact Nat.le_refl _
    | cons p ps ih =>
      intro m
      refine Nat.le_trans (ih _) ?_
      dsimp only
      split
      · simp
      · have := sortedOf_len (m ++ [p.name])
        simp at this ⊢
        omega
  have := key ps []
  simpa [sumMissR] using this
theorem partVal_tw {hs : List HeldD} {g : List Int} {p : PartD} (hok : ∀ h ∈ hs, HeldOk h) (hp : PartTw p) : Tw 1000000000000 ((partVal (best hs p.name g) p).getD 0) := by
  cases hb : best hs p.name g with
  | none => exact Tw.zero _
  | some h =>
    unfold partVal
    dsimp only
    split
    · rename_i hin
      obtain ⟨k, hk⟩ : ∃ k : Nat, p.at_ = (k : Int) := ⟨p.at_.toNat, by omega⟩
      rw [hk] at hin ⊢
      have hkv : k < h.vals.length := by omega
      rw [Int.toNat_natCast, List.getElem?_eq_getElem hkv]
      show Tw _ (if p.is = true then (if h.vals[k] = p.v then p.c else 0) else p.c * ((h.vals[k] : Int) : Rat))
      split
      · split
        · exact hp.c.mono (by decide)
        · exact Tw.zero _
      · exact hp.c.mul ((hok h (best_mem hb)).2.2 _ (List.getElem_mem hkv))
    · exact Tw.zero _
theorem sumVal_tw {hs : List HeldD} {g : List Int} {ps : List PartD} (hok : ∀ h ∈ hs, HeldOk h) (hp : ∀ p ∈ ps, PartTw p) : ∀ k, k ≤ ps.length → Tw (k * 1000000000000) (sumVal hs g (ps.take k))
  | 0, _ => by simp [sumVal]; exact Tw.zero _
  | k + 1, h => by
    rw [sumVal_succ hs g ps k (by omega)]
    exact ((sumVal_tw hok hp k (by omega)).add (partVal_tw hok (hp _ (List.getElem_mem (show k < ps.length by omega))))).mono (by omega)

end Go.Proofs.YtekipapkcgoieaaGreatDoor
