/- DimensionLeast: for every input the law returns true, and the arguments read afterwards as they read before. Condition: the package variable math/bits.deBruijn64tab starts as the program's text lays it, which the card ties to the text (a pruned copy of the project). -/
import Derived.Test.YtcnldaccdojdkaaDoorDimensionLeastP6
import Derived.WalkKit
import Derived.ProofKit
import Derived.KernelRfl
import Derived.LaidMore
import Derived.LaidLaws
import Derived.Stop.Joined
import Derived.SevenTiedAt
import Derived.Test.YtcnldaccdojdkaaDoorCards
import Derived.Test.YtcnldaccdojdkaaDoorTie
namespace Go.Proofs.YtcnldaccdojdkaaDoor
open Go.AM Go.ChangeShapes Go.WideShapes Go.ChangeAt Go.RowKit Go.Proofs
set_option linter.unusedVariables false
theorem dimensionLeast_own : ownKnob Tryd.prog.godebug = Option.none := by kernel_rfl
theorem dimensionLeast_laidOut : laidOutB Tryd.prog = true := by kernel_rfl
theorem dimensionLeast_read : ∀ ass, F2 (fun t x => ∃ n, Fit Tryd.prog n t x) [24] ass → Reads Tryd.prog 8 false (argsAV Tryd.prog [24] ass) (.bool true) := by
  intro ass h
  obtain ⟨x1, rfl, ⟨f1, h1⟩⟩ := F2.one h
  obtain ⟨rs, rfl, hlr, hok⟩ := fit_rel h1
  have e1 : aggT Tryd.prog 24 = true := by kernel_rfl
  have e : argsAV Tryd.prog [24] [[.rsl 2 (rs.map rowV)]] = [relV rs] := by
    simp [argsAV, argAV, e1, relV]
  rw [e]
  exact D.law_least rs hlr hok

set_option maxRecDepth 100000 in
theorem dimensionLeast_lifted (os : Os) (started : os.Started) (H : Type) (enc : TypeId × Value → H) :
    ReturnsInHanded {} Tryd.checked os 8 .any (fun w args => (Rows.dimensionLeastSpec.pre enc Tryd.prog Tryd.f8 [] false w args ∧ laidMetH Tryd.prog [("math/bits.deBruijn64tab", Rows.laid_math_bits_deBruijn64tab)] w) ∧ sizedMet enc Tryd.prog Tryd.f8 (OpenSpec.ofChange Rows.dimensionLeastSpec) false w args)
      (Rows.dimensionLeastSpec.post enc Tryd.prog Tryd.f8 false true false false) := by
  refine returnsInHanded_of_change_and (C := Tryd.checked) (X := fun w _ => laidMetH Tryd.prog [("math/bits.deBruijn64tab", Rows.laid_math_bits_deBruijn64tab)] w) (fun _ _ _ hh h => h.of_heap hh) dimensionLeast_own started (by kernel_rfl) Tryd.func8
    (ChangeSpec.witness_shaped (enc := enc) (C := Tryd.checked) (os := os) (X := fun w _ => laidMetH Tryd.prog [("math/bits.deBruijn64tab", Rows.laid_math_bits_deBruijn64tab)] w) false (World.doorLaid Tryd.prog 400 os) #[.agg #[.slice Option.none 0 0]] 8 rfl (World.shaped_of_RefB (by kernel_rfl) (by kernel_rfl)) (by kernel_rfl) (by kernel_rfl) (by kernel_rfl) (pmet os _)) ?_
  intro W base args ds gs before hval hW _ _ hL _
  exact law_contract dimensionLeast_laidOut (ts := [24]) (T := 4) rfl rfl Tryd.underlying4 (by kernel_rfl) rfl (fun ds h => by
    match ds, h with
    | [d1], _ => rfl) dimensionLeast_read hval hW (pgl hL)
theorem dimensionLeast_said : Rows.DimensionLeastSaid :=
  OpenClaim.holds_of_wide 8 Tryd.f8 rfl rfl rfl rfl rfl rfl rfl ⟨rfl, rfl, rfl, rfl, rfl⟩ rfl rfl rfl rfl rfl (by kernel_rfl) Tryd.func8 (by kernel_rfl)
    (of_decide_eq_true (by kernel_rfl)) (by unfold Func.isWrapper; first | (rw [if_pos (by decide +kernel)]; kernel_rfl) | (rw [if_neg (by decide +kernel)]; exact ⟨rfl, rfl⟩))
    (fun os started H enc _ => dimensionLeast_lifted os started H enc)
theorem dimensionLeast_holds : Rows.DimensionLeastCardSaid :=
  Claim7.holds_tied_plain_at .later [] [.data] true (true, "c7933b8ecebf929fa848b954d287a500c932d918299249ebee31a97277dd07c8") false
    dimensionLeast_said (fun _ h => by cases h) (by kernel_rfl) (fun _ h => by cases h) dimensionLeast_row_tie rfl ⟨rfl, rfl⟩ (by kernel_rfl) rfl
    (fun f fn hf hfn => by
      obtain rfl : f = 8 := Option.some.inj ((show Tryd.prog.funcNamed "antecede/antecedelaw09.DimensionLeast" = some 8 by kernel_rfl).symm.trans hf) |>.symm
      obtain rfl : fn = Tryd.f8 := (Option.some.inj (Tryd.func8.symm.trans hfn)).symm
      exact ⟨by kernel_rfl, fun j t ht => by
        rw [Tryd.params8] at ht
        have hm : t ∈ [24] := by simpa using Array.mem_of_getElem? ht
        have hall : ([24].all fun u => !Tryd.prog.wantsStandIn u) = true := by kernel_rfl
        exact (show Tryd.prog.wantsStandIn t = false by simpa using List.all_eq_true.1 hall t hm)⟩)
    (by kernel_rfl)
end Go.Proofs.YtcnldaccdojdkaaDoor
