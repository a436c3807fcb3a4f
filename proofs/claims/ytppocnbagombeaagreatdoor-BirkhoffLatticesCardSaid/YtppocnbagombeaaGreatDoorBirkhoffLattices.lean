/- BirkhoffLattices: for every input the law returns true, and the arguments read afterwards as they read before. Condition: the package variables math/bits.deBruijn32tab, math/bits.deBruijn64tab and internal/strconv.uint64pow10 start as the program text lays them, which the card ties to the text (a pruned copy of the project). -/
import Derived.Test.YtppocnbagombeaaGreatDoorBirkhoffLatticesP8
import Derived.WalkKit
import Derived.ProofKit
import Derived.KernelRfl
import Derived.LaidMore
import Derived.LaidLaws
import Derived.Stop.Joined
import Derived.SevenTiedAt
import Derived.Test.YtppocnbagombeaaGreatDoorCards
import Derived.Test.YtppocnbagombeaaGreatDoorTie
namespace Go.Proofs.YtppocnbagombeaaGreatDoor
open Go.AM Go.ChangeShapes Go.WideShapes Go.ChangeAt Go.RowKit Go.Proofs
set_option linter.unusedVariables false
theorem birkhoffLattices_own : ownKnob Tryz.prog.godebug = Option.none := by kernel_rfl
theorem birkhoffLattices_laidOut : laidOutB Tryz.prog = true := by kernel_rfl
theorem birkhoffLattices_read : ∀ ass, F2 (fun t x => ∃ n, Fit Tryz.prog n t x) [24] ass → Reads Tryz.prog 5 false (argsAV Tryz.prog [24] ass) (.bool true) := by
  intro ass h
  obtain ⟨x, rfl, ⟨f1, h1⟩⟩ := F2.one h
  obtain ⟨rs, rfl, hl, hok⟩ := fit_rel h1
  have e1 : aggT Tryz.prog 24 = true := by kernel_rfl
  have e : argsAV Tryz.prog [24] [[.rsl 2 (rs.map rowV)]] = [relV rs] := by
    simp [argsAV, argAV, e1, relV]
  rw [e]
  exact B.law_lattices rs hl hok

set_option maxRecDepth 100000 in
theorem birkhoffLattices_lifted (os : Os) (started : os.Started) (H : Type) (enc : TypeId × Value → H) :
    ReturnsInHanded {} Tryz.checked os 5 .any (fun w args => (Rows.birkhoffLatticesSpec.pre enc Tryz.prog Tryz.f5 [] false w args ∧ laidMetH Tryz.prog [("math/bits.deBruijn32tab", Rows.laid_math_bits_deBruijn32tab), ("math/bits.deBruijn64tab", Rows.laid_math_bits_deBruijn64tab), ("internal/strconv.uint64pow10", Rows.laid_internal_strconv_uint64pow10)] w) ∧ sizedMet enc Tryz.prog Tryz.f5 (OpenSpec.ofChange Rows.birkhoffLatticesSpec) false w args)
      (Rows.birkhoffLatticesSpec.post enc Tryz.prog Tryz.f5 false true false false) := by
  refine returnsInHanded_of_change_and (C := Tryz.checked) (X := fun w _ => laidMetH Tryz.prog [("math/bits.deBruijn32tab", Rows.laid_math_bits_deBruijn32tab), ("math/bits.deBruijn64tab", Rows.laid_math_bits_deBruijn64tab), ("internal/strconv.uint64pow10", Rows.laid_internal_strconv_uint64pow10)] w) (fun _ _ _ hh h => h.of_heap hh) birkhoffLattices_own started (by kernel_rfl) Tryz.func5
    (ChangeSpec.witness_shaped (enc := enc) (C := Tryz.checked) (os := os) (X := fun w _ => laidMetH Tryz.prog [("math/bits.deBruijn32tab", Rows.laid_math_bits_deBruijn32tab), ("math/bits.deBruijn64tab", Rows.laid_math_bits_deBruijn64tab), ("internal/strconv.uint64pow10", Rows.laid_internal_strconv_uint64pow10)] w) false (World.doorLaid Tryz.prog 400 os) #[.agg #[.slice Option.none 0 0]] 8 rfl (World.shaped_of_RefB (by kernel_rfl) (by kernel_rfl)) (by kernel_rfl) (by kernel_rfl) (by kernel_rfl) (pmet os _)) ?_
  intro W base args ds gs before hval hW _ _ hL _
  exact law_contract birkhoffLattices_laidOut (ts := [24]) (T := 4) rfl rfl Tryz.underlying4 (by kernel_rfl) rfl (fun ds h => by
    match ds, h with
    | [d1], _ => rfl) birkhoffLattices_read hval hW (pgl hL)
theorem birkhoffLattices_said : Rows.BirkhoffLatticesSaid :=
  OpenClaim.holds_of_wide 5 Tryz.f5 rfl rfl rfl rfl rfl rfl rfl ⟨rfl, rfl, rfl, rfl, rfl⟩ rfl rfl rfl rfl rfl (by kernel_rfl) Tryz.func5 (by kernel_rfl)
    (of_decide_eq_true (by kernel_rfl)) (by unfold Func.isWrapper; first | (rw [if_pos (by decide +kernel)]; kernel_rfl) | (rw [if_neg (by decide +kernel)]; exact ⟨rfl, rfl⟩))
    (fun os started H enc _ => birkhoffLattices_lifted os started H enc)
theorem birkhoffLattices_holds : Rows.BirkhoffLatticesCardSaid :=
  Claim7.holds_tied_plain_at .later [] [.data, .data, .data] true (true, "905a766f3dc9884b12bd2a234102152df08fdd86311c0db6ff6c3e32fc1383e5") false
    birkhoffLattices_said (fun _ h => by cases h) (by kernel_rfl) (fun _ h => by cases h) birkhoffLattices_row_tie rfl ⟨rfl, rfl⟩ (by kernel_rfl) rfl
    (fun f fn hf hfn => by
      obtain rfl : f = 5 := Option.some.inj ((show Tryz.prog.funcNamed "antecede/antecedelaw11.BirkhoffLattices" = some 5 by kernel_rfl).symm.trans hf) |>.symm
      obtain rfl : fn = Tryz.f5 := (Option.some.inj (Tryz.func5.symm.trans hfn)).symm
      exact ⟨by kernel_rfl, fun j t ht => by
        rw [Tryz.params5] at ht
        have hm : t ∈ [24] := by simpa using Array.mem_of_getElem? ht
        have hall : ([24].all fun u => !Tryz.prog.wantsStandIn u) = true := by kernel_rfl
        exact (show Tryz.prog.wantsStandIn t = false by simpa using List.all_eq_true.1 hall t hm)⟩)
    (by kernel_rfl)
end Go.Proofs.YtppocnbagombeaaGreatDoor
