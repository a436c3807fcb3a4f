/- ExtensionMeets: for every input the law returns true, and the arguments read afterwards as they read before. Condition: the package variable math/bits.deBruijn64tab starts as the program's text lays it, which the card ties to the text (a pruned copy of the project). -/
import Derived.Test.YtljcffhjpcdpeaaDoorExtensionMeetsP6
import Derived.WalkKit
import Derived.ProofKit
import Derived.KernelRfl
import Derived.LaidMore
import Derived.LaidLaws
import Derived.Stop.Joined
import Derived.SevenTiedAt
import Derived.Test.YtljcffhjpcdpeaaDoorCards
import Derived.Test.YtljcffhjpcdpeaaDoorTie
namespace Go.Proofs.YtljcffhjpcdpeaaDoor
open Go.AM Go.ChangeShapes Go.WideShapes Go.ChangeAt Go.RowKit Go.Proofs
set_option linter.unusedVariables false
theorem extensionMeets_own : ownKnob Tryd.prog.godebug = Option.none := by kernel_rfl
theorem extensionMeets_laidOut : laidOutB Tryd.prog = true := by kernel_rfl
theorem extensionMeets_read : ∀ ass, F2 (fun t x => ∃ n, Fit Tryd.prog n t x) [3, 55] ass → Reads Tryd.prog 8 false (argsAV Tryd.prog [3, 55] ass) (.bool true) := by
  intro ass h
  obtain ⟨x1, x2, rfl, ⟨f1, h1⟩, ⟨f2, h2⟩⟩ := F2.two h
  obtain ⟨n, rfl, _⟩ := fit_int Tryd.underlying3 h1
  obtain ⟨ls, rfl, hl, hle⟩ := fit_lists h2
  have e1 : aggT Tryd.prog 3 = false := by kernel_rfl
  have e2 : aggT Tryd.prog 55 = false := by kernel_rfl
  have e : argsAV Tryd.prog [3, 55] [[.int .i64 n], [.rsl 1 (lisR ls)]] = [.int .i64 n, .rsl 1 (lisR ls)] := by
    simp [argsAV, argAV, e1, e2]
  rw [e]
  exact X.law_meets n ls hl hle

set_option maxRecDepth 100000 in
theorem extensionMeets_lifted (os : Os) (started : os.Started) (H : Type) (enc : TypeId × Value → H) :
    ReturnsInHanded {} Tryd.checked os 8 .any (fun w args => (Rows.extensionMeetsSpec.pre enc Tryd.prog Tryd.f8 [] false w args ∧ laidMetH Tryd.prog [("math/bits.deBruijn64tab", Rows.laid_math_bits_deBruijn64tab)] w) ∧ sizedMet enc Tryd.prog Tryd.f8 (OpenSpec.ofChange Rows.extensionMeetsSpec) false w args)
      (Rows.extensionMeetsSpec.post enc Tryd.prog Tryd.f8 false true false false) := by
  refine returnsInHanded_of_change_and (C := Tryd.checked) (X := fun w _ => laidMetH Tryd.prog [("math/bits.deBruijn64tab", Rows.laid_math_bits_deBruijn64tab)] w) (fun _ _ _ hh h => h.of_heap hh) extensionMeets_own started (by kernel_rfl) Tryd.func8
    (ChangeSpec.witness_shaped (enc := enc) (C := Tryd.checked) (os := os) (X := fun w _ => laidMetH Tryd.prog [("math/bits.deBruijn64tab", Rows.laid_math_bits_deBruijn64tab)] w) false (World.doorLaid Tryd.prog 400 os) #[.int .i64 0, .slice Option.none 0 0] 8 rfl (World.shaped_of_RefB (by kernel_rfl) (by kernel_rfl)) (by kernel_rfl) (by kernel_rfl) (by kernel_rfl) (pmet os _)) ?_
  intro W base args ds gs before hval hW _ _ hL _
  exact law_contract extensionMeets_laidOut (ts := [3, 55]) (T := 4) rfl rfl Tryd.underlying4 (by kernel_rfl) rfl (fun ds h => by
    match ds, h with
    | [d1, d2], _ => rfl) extensionMeets_read hval hW (pgl hL)
theorem extensionMeets_said : Rows.ExtensionMeetsSaid :=
  OpenClaim.holds_of_wide 8 Tryd.f8 rfl rfl rfl rfl rfl rfl rfl ⟨rfl, rfl, rfl, rfl, rfl⟩ rfl rfl rfl rfl rfl (by kernel_rfl) Tryd.func8 (by kernel_rfl)
    (of_decide_eq_true (by kernel_rfl)) (by unfold Func.isWrapper; first | (rw [if_pos (by decide +kernel)]; kernel_rfl) | (rw [if_neg (by decide +kernel)]; exact ⟨rfl, rfl⟩))
    (fun os started H enc _ => extensionMeets_lifted os started H enc)
theorem extensionMeets_holds : Rows.ExtensionMeetsCardSaid :=
  Claim7.holds_tied_plain_at .later [] [.data] true (true, "2071452e8ec250b5f13c2431664d391d3d0d3d9f30eab60b1eae15b9932d1ae7") false
    extensionMeets_said (fun _ h => by cases h) (by kernel_rfl) (fun _ h => by cases h) extensionMeets_row_tie rfl ⟨rfl, rfl⟩ (by kernel_rfl) rfl
    (fun f fn hf hfn => by
      obtain rfl : f = 8 := Option.some.inj ((show Tryd.prog.funcNamed "antecede/antecedelaw08.ExtensionMeets" = some 8 by kernel_rfl).symm.trans hf) |>.symm
      obtain rfl : fn = Tryd.f8 := (Option.some.inj (Tryd.func8.symm.trans hfn)).symm
      exact ⟨by kernel_rfl, fun j t ht => by
        rw [Tryd.params8] at ht
        have hm : t ∈ [3, 55] := by simpa using Array.mem_of_getElem? ht
        have hall : ([3, 55].all fun u => !Tryd.prog.wantsStandIn u) = true := by kernel_rfl
        exact (show Tryd.prog.wantsStandIn t = false by simpa using List.all_eq_true.1 hall t hm)⟩)
    (by kernel_rfl)
end Go.Proofs.YtljcffhjpcdpeaaDoor
