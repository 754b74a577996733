/-
  From a lone contract to a row that says 'leaving'.
-/
import Derived.Test.YtekipapkcgoieaaGreatDoorJ20
import Derived.Conc.Holds
import Derived.Conc.HoldsTime
import Derived.Leaving
import Derived.Deep.DeepHandedRow
import Derived.SevenTiedAt
set_option linter.unusedVariables false
set_option linter.unusedSimpArgs false

/- From a lone contract to a row that says 'leaving'. -/
namespace Go.Proofs.YtekipapkcgoieaaGreatDoor
open Go.ChangeShapes Go.WideShapes Go.ChangeAt Go.RowKit

/-- A call of one goroutine leaves nobody behind. -/
theorem leaving_of_handed {a : Assume} {C : Checked} {os : Os} {f : FuncId} {r : Reach} {Pre : World → Array Value → Prop} {Post Post' : World → Array Value → Value → World → Prop}
    (h : ReturnsInHanded a C os f r Pre Post) (hp : ∀ w args v w', Post w args v w' → Post' w args v w') : ReturnsInLeavingWide a C os f r Pre Post' := fun enter => by
  obtain ⟨h0, h1, h2, h3, h4⟩ := h enter
  refine ⟨h0, h1, h2, h3, fun w tape i hf => ?_⟩
  obtain ⟨n, v, w', hn, hc, hr, hpp, ⟨j, last, hj, hs, hq, hh, he⟩, ha⟩ := h4 w tape i hf
  exact ⟨n, v, w', hn, hc, hr, hp _ _ _ _ hpp, ⟨j, last, hj, hs, hh, onlyLeaving_of_quiet hq, he⟩, ha⟩
/-- What is said of a call that leaves the outside alone holds where the clock may have gone on. -/
theorem post_time {H : Type} {enc : TypeId × Value → H} {P : Program} {f : Func} {s : ChangeSpec} {F : Stop.Interp} {apart fresh handsOn : Bool} {W W' : World} {args : Array Value} {v : Value}
    (h : s.post enc P f apart fresh handsOn false W args v W') : (OpenSpec.ofChange s).postWith enc P f F (outsideKept [.timePasses]) apart fresh handsOn W args v W' := by
  have hk := h
  obtain ⟨ds, gs, before, pr, pa, pv, h1, h2, h3, h4, h5, _⟩ := hk
  have hos : W'.os = W.os := by
    exact h5.1
  have hE : { W' with os := W.os } = W' := by rw [← hos]
  exact postWith_of_post (by rw [hE]; exact h) (by rw [hos]; exact ⟨0, by simp⟩)

/-- A start at the tape of noughts, for a row that says 'calm'. -/
theorem witness_calm_at {H : Type} {enc : TypeId × Value → H} {C : Checked} {os : Os} {f : FuncId} {fn : Func} {s : OpenSpec} {conds : List PathCond} {apart : Bool} {laid : List (String × DataW Unit)} (w0 : World) (args : Array Value) (hos : w0.os = os)
    (hv : (w0.forCall (fun _ _ => 0) ⟨#[], args, []⟩).variablesB C.prog = true)
    (hr : ((w0.forCall (fun _ _ => 0) ⟨#[], args, []⟩).heap.toList.drop C.prog.globals.size).take ((begin C.prog (fun _ _ => 0) default).world.heap.size - C.prog.globals.size) =
      (begin C.prog (fun _ _ => 0) default).world.heap.toList.drop C.prog.globals.size)
    (hok : Input.okWideB C.prog (w0.forCall (fun _ _ => 0) ⟨#[], args, []⟩) f ⟨#[], args, []⟩ = true)
    (hrow : s.preRow enc C.prog fn conds apart laid (w0.forCall (fun _ _ => 0) ⟨#[], args, []⟩).memory args) :
    ∃ (w : World) (tape : Tape) (i : Input), w.os = os ∧ (w.forCall tape i).Shaped C.prog ∧ i.vars = [] ∧ Input.okWide C.prog (w.forCall tape i) .any w.heap.size f i ∧
      s.preRow enc C.prog fn conds apart laid (w.forCall tape i).memory i.args ∧ ({ calm := true } : Assume).holds C.prog (lone (Frame.enter C.prog f i.args .normal) [] (w.forCall tape i)) :=
  ⟨w0, fun _ _ => 0, ⟨#[], args, []⟩, hos, World.shaped_of_B hv hr, (Input.okWide_of_okWideB (base := 0) hok).1, (Input.okWide_of_okWideB hok).2, hrow, by
    simp only [Assume.holds]
    exact ⟨by simp, fun _ _ _ _ => rfl, by simp, by simp, by simp⟩⟩

/-- The card of a row whose call can start goroutines. -/
theorem holds_tied_goes (Lk : Looks) {p : Pinned} {s : OpenSpec} {c : OpenClaim} (kinds : List LaidKind) (tests : Bool) (har : Bool × String) (lk : Bool)
    (hc : c.holds p s) (hw : c.wfByText s = true) (htie : c.laidByTextAt Lk p kinds tests)
    (hst : c.start = .entering) (hnb : c.noBlocks = false ∧ c.again = false) (hm : p.checked.prog.mainIs = some (har.1, har.2.toList)) (hn : (!har.1 && har.2.isEmpty && !lk) = false)
    (hl : ∀ f fn, p.checked.prog.funcNamed c.func = some f → p.checked.prog.funcs[f]? = some fn → lk = p.checked.prog.looks [] ∧ ∀ (j : Nat) t, fn.params[j]? = some t → p.checked.prog.wantsStandIn t = false)
    (hg : true = c.goesBy p.checked.prog) :
    Claim7.holds p (.plain s) { stood := { row := c, standIns := [], harness := har, looks := lk }, kinds := [], alts := [], goes := true, laidByText := true, laidKinds := kinds, laidTests := tests, laidLooks := Lk } := by
  have h6 : Claim7.isSixth { stood := { row := c, standIns := [], harness := har, looks := lk }, kinds := [] } = false := by simpa [Claim7.isSixth] using hn
  exact ⟨Claim7.tied_new_at Lk kinds tests (Claim7.new_of_sixth hc har lk hst hnb hm h6 hl) hw, (fun D hD => by cases hD), htie, (fun h => by cases h), hg⟩

end Go.Proofs.YtekipapkcgoieaaGreatDoor
