/- DimensionStandard: for every input the law returns true, and the arguments read afterwards as they read before. Condition: the package variable math/bits.deBruijn64tab starts as the program's text lays it, which the card ties to the text (a pruned copy of the project). -/
import Derived.Test.YtcnldaccdojdkaaDoorDimensionStandardP5
import Derived.WalkKit
import Derived.ProofKit
import Derived.KernelRfl
import Derived.LaidMore
import Derived.LaidLaws
import Derived.Stop.Joined
import Derived.SevenTiedAt
import Derived.Test.YtcnldaccdojdkaaDoorCards
import Derived.Test.YtcnldaccdojdkaaDoorTie
namespace Go.Proofs.YtcnldaccdojdkaaDoor
open Go.AM Go.ChangeShapes Go.WideShapes Go.ChangeAt Go.RowKit Go.Proofs
set_option linter.unusedVariables false
theorem dimensionStandard_own : ownKnob Tryd.prog.godebug = Option.none := by kernel_rfl
theorem dimensionStandard_laidOut : laidOutB Tryd.prog = true := by kernel_rfl
theorem dimensionStandard_read : ∀ ass, F2 (fun t x => ∃ n, Fit Tryd.prog n t x) [3] ass → Reads Tryd.prog 6 false (argsAV Tryd.prog [3] ass) (.bool true) := by
  intro ass h
  obtain ⟨x1, rfl, ⟨f1, h1⟩⟩ := F2.one h
  obtain ⟨i, rfl, _⟩ := fit_int Tryd.underlying3 h1
  have e1 : aggT Tryd.prog 3 = false := by kernel_rfl
  have e : argsAV Tryd.prog [3] [[.int .i64 i]] = [.int .i64 i] := by
    simp [argsAV, argAV, e1]
  rw [e]
  exact D.law_standard i

set_option maxRecDepth 100000 in
theorem dimensionStandard_lifted (os : Os) (started : os.Started) (H : Type) (enc : TypeId × Value → H) :
    ReturnsInHanded {} Tryd.checked os 6 .any (fun w args => (Rows.dimensionStandardSpec.pre enc Tryd.prog Tryd.f6 [] false w args ∧ laidMetH Tryd.prog [("math/bits.deBruijn64tab", Rows.laid_math_bits_deBruijn64tab)] w) ∧ sizedMet enc Tryd.prog Tryd.f6 (OpenSpec.ofChange Rows.dimensionStandardSpec) false w args)
      (Rows.dimensionStandardSpec.post enc Tryd.prog Tryd.f6 false true false false) := by
  refine returnsInHanded_of_change_and (C := Tryd.checked) (X := fun w _ => laidMetH Tryd.prog [("math/bits.deBruijn64tab", Rows.laid_math_bits_deBruijn64tab)] w) (fun _ _ _ hh h => h.of_heap hh) dimensionStandard_own started (by kernel_rfl) Tryd.func6
    (ChangeSpec.witness_shaped (enc := enc) (C := Tryd.checked) (os := os) (X := fun w _ => laidMetH Tryd.prog [("math/bits.deBruijn64tab", Rows.laid_math_bits_deBruijn64tab)] w) false (World.doorLaid Tryd.prog 400 os) #[.int .i64 0] 8 rfl (World.shaped_of_RefB (by kernel_rfl) (by kernel_rfl)) (by kernel_rfl) (by kernel_rfl) (by kernel_rfl) (pmet os _)) ?_
  intro W base args ds gs before hval hW _ _ hL _
  exact law_contract dimensionStandard_laidOut (ts := [3]) (T := 4) rfl rfl Tryd.underlying4 (by kernel_rfl) rfl (fun ds h => by
    match ds, h with
    | [d1], _ => rfl) dimensionStandard_read hval hW (pgl hL)
theorem dimensionStandard_said : Rows.DimensionStandardSaid :=
  OpenClaim.holds_of_wide 6 Tryd.f6 rfl rfl rfl rfl rfl rfl rfl ⟨rfl, rfl, rfl, rfl, rfl⟩ rfl rfl rfl rfl rfl (by kernel_rfl) Tryd.func6 (by kernel_rfl)
    (of_decide_eq_true (by kernel_rfl)) (by unfold Func.isWrapper; first | (rw [if_pos (by decide +kernel)]; kernel_rfl) | (rw [if_neg (by decide +kernel)]; exact ⟨rfl, rfl⟩))
    (fun os started H enc _ => dimensionStandard_lifted os started H enc)
theorem dimensionStandard_holds : Rows.DimensionStandardCardSaid :=
  Claim7.holds_tied_plain_at .later [] [.data] true (true, "c7933b8ecebf929fa848b954d287a500c932d918299249ebee31a97277dd07c8") false
    dimensionStandard_said (fun _ h => by cases h) (by kernel_rfl) (fun _ h => by cases h) dimensionStandard_row_tie rfl ⟨rfl, rfl⟩ (by kernel_rfl) rfl
    (fun f fn hf hfn => by
      obtain rfl : f = 6 := Option.some.inj ((show Tryd.prog.funcNamed "antecede/antecedelaw09.DimensionStandard" = some 6 by kernel_rfl).symm.trans hf) |>.symm
      obtain rfl : fn = Tryd.f6 := (Option.some.inj (Tryd.func6.symm.trans hfn)).symm
      exact ⟨by kernel_rfl, fun j t ht => by
        rw [Tryd.params6] at ht
        have hm : t ∈ [3] := by simpa using Array.mem_of_getElem? ht
        have hall : ([3].all fun u => !Tryd.prog.wantsStandIn u) = true := by kernel_rfl
        exact (show Tryd.prog.wantsStandIn t = false by simpa using List.all_eq_true.1 hall t hm)⟩)
    (by kernel_rfl)
end Go.Proofs.YtcnldaccdojdkaaDoor
