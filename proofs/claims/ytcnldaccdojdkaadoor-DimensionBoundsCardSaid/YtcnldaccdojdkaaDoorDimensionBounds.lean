/- DimensionBounds: for every input the law returns true, and the arguments read afterwards as they read before. Condition: the package variable math/bits.deBruijn64tab starts as the program's text lays it, which the card ties to the text (a pruned copy of the project). -/
import Derived.Test.YtcnldaccdojdkaaDoorDimensionBoundsP6
import Derived.WalkKit
import Derived.ProofKit
import Derived.KernelRfl
import Derived.LaidMore
import Derived.LaidLaws
import Derived.Stop.Joined
import Derived.SevenTiedAt
import Derived.Test.YtcnldaccdojdkaaDoorCards
import Derived.Test.YtcnldaccdojdkaaDoorTie
namespace Go.Proofs.YtcnldaccdojdkaaDoor
open Go.AM Go.ChangeShapes Go.WideShapes Go.ChangeAt Go.RowKit Go.Proofs
set_option linter.unusedVariables false
theorem dimensionBounds_own : ownKnob Tryd.prog.godebug = Option.none := by kernel_rfl
theorem dimensionBounds_laidOut : laidOutB Tryd.prog = true := by kernel_rfl
theorem dimensionBounds_read : ∀ ass, F2 (fun t x => ∃ n, Fit Tryd.prog n t x) [24, 5] ass → Reads Tryd.prog 7 false (argsAV Tryd.prog [24, 5] ass) (.bool true) := by
  intro ass h
  obtain ⟨x1, x2, rfl, ⟨f1, h1⟩, ⟨f2, h2⟩⟩ := F2.two h
  obtain ⟨rs, rfl, hlr, hok⟩ := fit_rel h1
  obtain ⟨i, rfl, hi1, hi2⟩ := fit_int Tryd.underlying5 h2
  have hi0 : 0 ≤ i := by simpa [IntKind.min, IntKind.signed] using hi1
  have hi8 : i ≤ 255 := by simpa [IntKind.max, IntKind.signed, IntKind.bits] using hi2
  obtain ⟨a, rfl⟩ : ∃ a : Nat, i = a := ⟨i.toNat, (Int.toNat_of_nonneg hi0).symm⟩
  have e1 : aggT Tryd.prog 24 = true := by kernel_rfl
  have e2 : aggT Tryd.prog 5 = false := by kernel_rfl
  have e : argsAV Tryd.prog [24, 5] [[.rsl 2 (rs.map rowV)], [.int .u8 (a : Nat)]] = [relV rs, .int .u8 (a : Nat)] := by
    simp [argsAV, argAV, e1, e2, relV]
  rw [e]
  exact D.law_bounds rs hlr hok a (by omega)

set_option maxRecDepth 100000 in
theorem dimensionBounds_lifted (os : Os) (started : os.Started) (H : Type) (enc : TypeId × Value → H) :
    ReturnsInHanded {} Tryd.checked os 7 .any (fun w args => (Rows.dimensionBoundsSpec.pre enc Tryd.prog Tryd.f7 [] false w args ∧ laidMetH Tryd.prog [("math/bits.deBruijn64tab", Rows.laid_math_bits_deBruijn64tab)] w) ∧ sizedMet enc Tryd.prog Tryd.f7 (OpenSpec.ofChange Rows.dimensionBoundsSpec) false w args)
      (Rows.dimensionBoundsSpec.post enc Tryd.prog Tryd.f7 false true false false) := by
  refine returnsInHanded_of_change_and (C := Tryd.checked) (X := fun w _ => laidMetH Tryd.prog [("math/bits.deBruijn64tab", Rows.laid_math_bits_deBruijn64tab)] w) (fun _ _ _ hh h => h.of_heap hh) dimensionBounds_own started (by kernel_rfl) Tryd.func7
    (ChangeSpec.witness_shaped (enc := enc) (C := Tryd.checked) (os := os) (X := fun w _ => laidMetH Tryd.prog [("math/bits.deBruijn64tab", Rows.laid_math_bits_deBruijn64tab)] w) false (World.doorLaid Tryd.prog 400 os) #[.agg #[.slice Option.none 0 0], .int .u8 0] 8 rfl (World.shaped_of_RefB (by kernel_rfl) (by kernel_rfl)) (by kernel_rfl) (by kernel_rfl) (by kernel_rfl) (pmet os _)) ?_
  intro W base args ds gs before hval hW _ _ hL _
  exact law_contract dimensionBounds_laidOut (ts := [24, 5]) (T := 4) rfl rfl Tryd.underlying4 (by kernel_rfl) rfl (fun ds h => by
    match ds, h with
    | [d1, d2], _ => rfl) dimensionBounds_read hval hW (pgl hL)
theorem dimensionBounds_said : Rows.DimensionBoundsSaid :=
  OpenClaim.holds_of_wide 7 Tryd.f7 rfl rfl rfl rfl rfl rfl rfl ⟨rfl, rfl, rfl, rfl, rfl⟩ rfl rfl rfl rfl rfl (by kernel_rfl) Tryd.func7 (by kernel_rfl)
    (of_decide_eq_true (by kernel_rfl)) (by unfold Func.isWrapper; first | (rw [if_pos (by decide +kernel)]; kernel_rfl) | (rw [if_neg (by decide +kernel)]; exact ⟨rfl, rfl⟩))
    (fun os started H enc _ => dimensionBounds_lifted os started H enc)
theorem dimensionBounds_holds : Rows.DimensionBoundsCardSaid :=
  Claim7.holds_tied_plain_at .later [] [.data] true (true, "c7933b8ecebf929fa848b954d287a500c932d918299249ebee31a97277dd07c8") false
    dimensionBounds_said (fun _ h => by cases h) (by kernel_rfl) (fun _ h => by cases h) dimensionBounds_row_tie rfl ⟨rfl, rfl⟩ (by kernel_rfl) rfl
    (fun f fn hf hfn => by
      obtain rfl : f = 7 := Option.some.inj ((show Tryd.prog.funcNamed "antecede/antecedelaw09.DimensionBounds" = some 7 by kernel_rfl).symm.trans hf) |>.symm
      obtain rfl : fn = Tryd.f7 := (Option.some.inj (Tryd.func7.symm.trans hfn)).symm
      exact ⟨by kernel_rfl, fun j t ht => by
        rw [Tryd.params7] at ht
        have hm : t ∈ [24, 5] := by simpa using Array.mem_of_getElem? ht
        have hall : ([24, 5].all fun u => !Tryd.prog.wantsStandIn u) = true := by kernel_rfl
        exact (show Tryd.prog.wantsStandIn t = false by simpa using List.all_eq_true.1 hall t hm)⟩)
    (by kernel_rfl)
end Go.Proofs.YtcnldaccdojdkaaDoor
