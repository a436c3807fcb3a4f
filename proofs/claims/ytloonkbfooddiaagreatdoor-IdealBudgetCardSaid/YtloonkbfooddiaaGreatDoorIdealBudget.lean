/- IdealBudget: for every input the law returns true, and the arguments read afterwards as they read before. Condition: the package variables math/bits.deBruijn32tab, math/bits.deBruijn64tab and internal/strconv.uint64pow10 start as the program text lays them, which the card ties to the text (a pruned copy of the project). -/
import Derived.Test.YtloonkbfooddiaaGreatDoorIdealBudgetP7
import Derived.WalkKit
import Derived.ProofKit
import Derived.KernelRfl
import Derived.LaidMore
import Derived.LaidLaws
import Derived.Stop.Joined
import Derived.SevenTiedAt
import Derived.Test.YtloonkbfooddiaaGreatDoorCards
import Derived.Test.YtloonkbfooddiaaGreatDoorTie
namespace Go.Proofs.YtloonkbfooddiaaGreatDoor
open Go.AM Go.ChangeShapes Go.WideShapes Go.ChangeAt Go.RowKit Go.Proofs
set_option linter.unusedVariables false
theorem idealBudget_own : ownKnob Tryz.prog.godebug = Option.none := by kernel_rfl
theorem idealBudget_laidOut : laidOutB Tryz.prog = true := by kernel_rfl
theorem idealBudget_read : ∀ ass, F2 (fun t x => ∃ n, Fit Tryz.prog n t x) [5, 5] ass → Reads Tryz.prog 5 false (argsAV Tryz.prog [5, 5] ass) (.bool true) := by
  intro ass h
  obtain ⟨x, y, rfl, ⟨f1, h1⟩, ⟨f2, h2⟩⟩ := F2.two h
  obtain ⟨i, rfl, hi1, hi2⟩ := fit_int Tryz.underlying5 h1
  obtain ⟨j, rfl, hj1, hj2⟩ := fit_int Tryz.underlying5 h2
  have e1 : aggT Tryz.prog 5 = false := by kernel_rfl
  have e : argsAV Tryz.prog [5, 5] [[.int .u8 i], [.int .u8 j]] = [.int .u8 i, .int .u8 j] := by
    simp [argsAV, argAV, e1]
  rw [e]
  have hi1 : 0 ≤ i := by simpa [IntKind.min, IntKind.signed] using hi1
  have hj1 : 0 ≤ j := by simpa [IntKind.min, IntKind.signed] using hj1
  have hi2 : i ≤ 255 := by simpa [IntKind.max, IntKind.signed, IntKind.bits] using hi2
  have hj2 : j ≤ 255 := by simpa [IntKind.max, IntKind.signed, IntKind.bits] using hj2
  obtain ⟨m, rfl⟩ := Int.eq_ofNat_of_zero_le hi1
  obtain ⟨n, rfl⟩ := Int.eq_ofNat_of_zero_le hj1
  exact I.budget_r m n (by omega) (by omega)

set_option maxRecDepth 100000 in
theorem idealBudget_lifted (os : Os) (started : os.Started) (H : Type) (enc : TypeId × Value → H) :
    ReturnsInHanded {} Tryz.checked os 5 .any (fun w args => (Rows.idealBudgetSpec.pre enc Tryz.prog Tryz.f5 [] false w args ∧ laidMetH Tryz.prog [("math/bits.deBruijn32tab", Rows.laid_math_bits_deBruijn32tab), ("math/bits.deBruijn64tab", Rows.laid_math_bits_deBruijn64tab), ("internal/strconv.uint64pow10", Rows.laid_internal_strconv_uint64pow10)] w) ∧ sizedMet enc Tryz.prog Tryz.f5 (OpenSpec.ofChange Rows.idealBudgetSpec) false w args)
      (Rows.idealBudgetSpec.post enc Tryz.prog Tryz.f5 false true false false) := by
  refine returnsInHanded_of_change_and (C := Tryz.checked) (X := fun w _ => laidMetH Tryz.prog [("math/bits.deBruijn32tab", Rows.laid_math_bits_deBruijn32tab), ("math/bits.deBruijn64tab", Rows.laid_math_bits_deBruijn64tab), ("internal/strconv.uint64pow10", Rows.laid_internal_strconv_uint64pow10)] w) (fun _ _ _ hh h => h.of_heap hh) idealBudget_own started (by kernel_rfl) Tryz.func5
    (ChangeSpec.witness_shaped (enc := enc) (C := Tryz.checked) (os := os) (X := fun w _ => laidMetH Tryz.prog [("math/bits.deBruijn32tab", Rows.laid_math_bits_deBruijn32tab), ("math/bits.deBruijn64tab", Rows.laid_math_bits_deBruijn64tab), ("internal/strconv.uint64pow10", Rows.laid_internal_strconv_uint64pow10)] w) false (World.doorLaid Tryz.prog 400 os) #[.int .u8 0, .int .u8 0] 8 rfl (World.shaped_of_RefB (by kernel_rfl) (by kernel_rfl)) (by kernel_rfl) (by kernel_rfl) (by kernel_rfl) (pmet os _)) ?_
  intro W base args ds gs before hval hW _ _ hL _
  exact law_contract idealBudget_laidOut (ts := [5, 5]) (T := 4) rfl rfl Tryz.underlying4 (by kernel_rfl) rfl (fun ds h => by
    match ds, h with
    | [d1, d2], _ => rfl) idealBudget_read hval hW (pgl hL)
theorem idealBudget_said : Rows.IdealBudgetSaid :=
  OpenClaim.holds_of_wide 5 Tryz.f5 rfl rfl rfl rfl rfl rfl rfl ⟨rfl, rfl, rfl, rfl, rfl⟩ rfl rfl rfl rfl rfl (by kernel_rfl) Tryz.func5 (by kernel_rfl)
    (of_decide_eq_true (by kernel_rfl)) (by unfold Func.isWrapper; first | (rw [if_pos (by decide +kernel)]; kernel_rfl) | (rw [if_neg (by decide +kernel)]; exact ⟨rfl, rfl⟩))
    (fun os started H enc _ => idealBudget_lifted os started H enc)
theorem idealBudget_holds : Rows.IdealBudgetCardSaid :=
  Claim7.holds_tied_plain_at .later [] [.data, .data, .data] true (true, "2869d84be59e4d2e309d76c6bfd336e6e6ffc6904606b427ff6f83e5f5091e4d") false
    idealBudget_said (fun _ h => by cases h) (by kernel_rfl) (fun _ h => by cases h) idealBudget_row_tie rfl ⟨rfl, rfl⟩ (by kernel_rfl) rfl
    (fun f fn hf hfn => by
      obtain rfl : f = 5 := Option.some.inj ((show Tryz.prog.funcNamed "antecede/antecedelaw10.IdealBudget" = some 5 by kernel_rfl).symm.trans hf) |>.symm
      obtain rfl : fn = Tryz.f5 := (Option.some.inj (Tryz.func5.symm.trans hfn)).symm
      exact ⟨by kernel_rfl, fun j t ht => by
        rw [Tryz.params5] at ht
        have hm : t ∈ [5, 5] := by simpa using Array.mem_of_getElem? ht
        have hall : ([5, 5].all fun u => !Tryz.prog.wantsStandIn u) = true := by kernel_rfl
        exact (show Tryz.prog.wantsStandIn t = false by simpa using List.all_eq_true.1 hall t hm)⟩)
    (by kernel_rfl)
end Go.Proofs.YtloonkbfooddiaaGreatDoor
