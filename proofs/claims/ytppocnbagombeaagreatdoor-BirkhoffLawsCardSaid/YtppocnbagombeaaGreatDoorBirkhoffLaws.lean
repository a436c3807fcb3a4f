/- BirkhoffLaws: for every input the law returns true, and the arguments read afterwards as they read before. Condition: the package variables math/bits.deBruijn32tab, math/bits.deBruijn64tab and internal/strconv.uint64pow10 start as the program text lays them, which the card ties to the text (a pruned copy of the project). -/
import Derived.Test.YtppocnbagombeaaGreatDoorBirkhoffLawsP8
import Derived.WalkKit
import Derived.ProofKit
import Derived.KernelRfl
import Derived.LaidMore
import Derived.LaidLaws
import Derived.Stop.Joined
import Derived.SevenTiedAt
import Derived.Test.YtppocnbagombeaaGreatDoorCards
import Derived.Test.YtppocnbagombeaaGreatDoorTie
namespace Go.Proofs.YtppocnbagombeaaGreatDoor
open Go.AM Go.ChangeShapes Go.WideShapes Go.ChangeAt Go.RowKit Go.Proofs
set_option linter.unusedVariables false
theorem birkhoffLaws_own : ownKnob Tryz.prog.godebug = Option.none := by kernel_rfl
theorem birkhoffLaws_laidOut : laidOutB Tryz.prog = true := by kernel_rfl
theorem birkhoffLaws_read : ∀ ass, F2 (fun t x => ∃ n, Fit Tryz.prog n t x) [24, 3, 3, 3] ass → Reads Tryz.prog 8 false (argsAV Tryz.prog [24, 3, 3, 3] ass) (.bool true) := by
  intro ass h
  obtain ⟨x, y, z, w, rfl, ⟨f1, h1⟩, ⟨f2, h2⟩, ⟨f3, h3⟩, ⟨f4, h4⟩⟩ := F2.four h
  obtain ⟨rs, rfl, hl, hok⟩ := fit_rel h1
  obtain ⟨i, rfl, _⟩ := fit_int Tryz.underlying3 h2
  obtain ⟨j, rfl, _⟩ := fit_int Tryz.underlying3 h3
  obtain ⟨k, rfl, _⟩ := fit_int Tryz.underlying3 h4
  have e1 : aggT Tryz.prog 24 = true := by kernel_rfl
  have e2 : aggT Tryz.prog 3 = false := by kernel_rfl
  have e : argsAV Tryz.prog [24, 3, 3, 3] [[.rsl 2 (rs.map rowV)], [.int .i64 i], [.int .i64 j], [.int .i64 k]] = [relV rs, .int .i64 i, .int .i64 j, .int .i64 k] := by
    simp [argsAV, argAV, e1, e2, relV]
  rw [e]
  exact B.law_laws rs hl hok i j k

set_option maxRecDepth 100000 in
theorem birkhoffLaws_lifted (os : Os) (started : os.Started) (H : Type) (enc : TypeId × Value → H) :
    ReturnsInHanded {} Tryz.checked os 8 .any (fun w args => (Rows.birkhoffLawsSpec.pre enc Tryz.prog Tryz.f8 [] false w args ∧ laidMetH Tryz.prog [("math/bits.deBruijn32tab", Rows.laid_math_bits_deBruijn32tab), ("math/bits.deBruijn64tab", Rows.laid_math_bits_deBruijn64tab), ("internal/strconv.uint64pow10", Rows.laid_internal_strconv_uint64pow10)] w) ∧ sizedMet enc Tryz.prog Tryz.f8 (OpenSpec.ofChange Rows.birkhoffLawsSpec) false w args)
      (Rows.birkhoffLawsSpec.post enc Tryz.prog Tryz.f8 false true false false) := by
  refine returnsInHanded_of_change_and (C := Tryz.checked) (X := fun w _ => laidMetH Tryz.prog [("math/bits.deBruijn32tab", Rows.laid_math_bits_deBruijn32tab), ("math/bits.deBruijn64tab", Rows.laid_math_bits_deBruijn64tab), ("internal/strconv.uint64pow10", Rows.laid_internal_strconv_uint64pow10)] w) (fun _ _ _ hh h => h.of_heap hh) birkhoffLaws_own started (by kernel_rfl) Tryz.func8
    (ChangeSpec.witness_shaped (enc := enc) (C := Tryz.checked) (os := os) (X := fun w _ => laidMetH Tryz.prog [("math/bits.deBruijn32tab", Rows.laid_math_bits_deBruijn32tab), ("math/bits.deBruijn64tab", Rows.laid_math_bits_deBruijn64tab), ("internal/strconv.uint64pow10", Rows.laid_internal_strconv_uint64pow10)] w) false (World.doorLaid Tryz.prog 400 os) #[.agg #[.slice Option.none 0 0], .int .i64 0, .int .i64 0, .int .i64 0] 8 rfl (World.shaped_of_RefB (by kernel_rfl) (by kernel_rfl)) (by kernel_rfl) (by kernel_rfl) (by kernel_rfl) (pmet os _)) ?_
  intro W base args ds gs before hval hW _ _ hL _
  exact law_contract birkhoffLaws_laidOut (ts := [24, 3, 3, 3]) (T := 4) rfl rfl Tryz.underlying4 (by kernel_rfl) rfl (fun ds h => by
    match ds, h with
    | [d1, d2, d3, d4], _ => rfl) birkhoffLaws_read hval hW (pgl hL)
theorem birkhoffLaws_said : Rows.BirkhoffLawsSaid :=
  OpenClaim.holds_of_wide 8 Tryz.f8 rfl rfl rfl rfl rfl rfl rfl ⟨rfl, rfl, rfl, rfl, rfl⟩ rfl rfl rfl rfl rfl (by kernel_rfl) Tryz.func8 (by kernel_rfl)
    (of_decide_eq_true (by kernel_rfl)) (by unfold Func.isWrapper; first | (rw [if_pos (by decide +kernel)]; kernel_rfl) | (rw [if_neg (by decide +kernel)]; exact ⟨rfl, rfl⟩))
    (fun os started H enc _ => birkhoffLaws_lifted os started H enc)
theorem birkhoffLaws_holds : Rows.BirkhoffLawsCardSaid :=
  Claim7.holds_tied_plain_at .later [] [.data, .data, .data] true (true, "905a766f3dc9884b12bd2a234102152df08fdd86311c0db6ff6c3e32fc1383e5") false
    birkhoffLaws_said (fun _ h => by cases h) (by kernel_rfl) (fun _ h => by cases h) birkhoffLaws_row_tie rfl ⟨rfl, rfl⟩ (by kernel_rfl) rfl
    (fun f fn hf hfn => by
      obtain rfl : f = 8 := Option.some.inj ((show Tryz.prog.funcNamed "antecede/antecedelaw11.BirkhoffLaws" = some 8 by kernel_rfl).symm.trans hf) |>.symm
      obtain rfl : fn = Tryz.f8 := (Option.some.inj (Tryz.func8.symm.trans hfn)).symm
      exact ⟨by kernel_rfl, fun j t ht => by
        rw [Tryz.params8] at ht
        have hm : t ∈ [24, 3, 3, 3] := by simpa using Array.mem_of_getElem? ht
        have hall : ([24, 3, 3, 3].all fun u => !Tryz.prog.wantsStandIn u) = true := by kernel_rfl
        exact (show Tryz.prog.wantsStandIn t = false by simpa using List.all_eq_true.1 hall t hm)⟩)
    (by kernel_rfl)
end Go.Proofs.YtppocnbagombeaaGreatDoor
