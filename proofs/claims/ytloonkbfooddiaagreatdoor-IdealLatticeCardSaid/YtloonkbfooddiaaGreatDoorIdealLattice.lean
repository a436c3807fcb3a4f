/- IdealLattice: for every input the law returns true, and the arguments read afterwards as they read before. Condition: the package variables math/bits.deBruijn32tab, math/bits.deBruijn64tab and internal/strconv.uint64pow10 start as the program text lays them, which the card ties to the text (a pruned copy of the project). -/
import Derived.Test.YtloonkbfooddiaaGreatDoorIdealLatticeP7
import Derived.WalkKit
import Derived.ProofKit
import Derived.KernelRfl
import Derived.LaidMore
import Derived.LaidLaws
import Derived.Stop.Joined
import Derived.SevenTiedAt
import Derived.Test.YtloonkbfooddiaaGreatDoorCards
import Derived.Test.YtloonkbfooddiaaGreatDoorTie
namespace Go.Proofs.YtloonkbfooddiaaGreatDoor
open Go.AM Go.ChangeShapes Go.WideShapes Go.ChangeAt Go.RowKit Go.Proofs
set_option linter.unusedVariables false
theorem idealLattice_own : ownKnob Tryz.prog.godebug = Option.none := by kernel_rfl
theorem idealLattice_laidOut : laidOutB Tryz.prog = true := by kernel_rfl
theorem idealLattice_read : ∀ ass, F2 (fun t x => ∃ n, Fit Tryz.prog n t x) [24, 27, 27] ass → Reads Tryz.prog 8 false (argsAV Tryz.prog [24, 27, 27] ass) (.bool true) := by
  intro ass h
  obtain ⟨x, y, z, rfl, ⟨f1, h1⟩, ⟨f2, h2⟩, ⟨f3, h3⟩⟩ := F2.three h
  obtain ⟨rs, rfl, hl, hok⟩ := fit_rel h1
  obtain ⟨s, rfl, hlW, hW⟩ := fit_set h2
  obtain ⟨r, rfl, hlV, hV⟩ := fit_set h3
  have e1 : aggT Tryz.prog 24 = true := by kernel_rfl
  have e2 : aggT Tryz.prog 27 = true := by kernel_rfl
  have e : argsAV Tryz.prog [24, 27, 27] [[.rsl 2 (rs.map rowV)], rowV s, rowV r] = [relV rs, .agg [.int .i64 s.N, .rsl 1 (words s.W)], .agg [.int .i64 r.N, .rsl 1 (words r.W)]] := by
    simp [argsAV, argAV, e1, e2, relV, rowV]
  rw [e]
  exact I.law_lattice rs hl hok s.N s.W hW hlW r.N r.W hV hlV

set_option maxRecDepth 100000 in
theorem idealLattice_lifted (os : Os) (started : os.Started) (H : Type) (enc : TypeId × Value → H) :
    ReturnsInHanded {} Tryz.checked os 8 .any (fun w args => (Rows.idealLatticeSpec.pre enc Tryz.prog Tryz.f8 [] false w args ∧ laidMetH Tryz.prog [("math/bits.deBruijn32tab", Rows.laid_math_bits_deBruijn32tab), ("math/bits.deBruijn64tab", Rows.laid_math_bits_deBruijn64tab), ("internal/strconv.uint64pow10", Rows.laid_internal_strconv_uint64pow10)] w) ∧ sizedMet enc Tryz.prog Tryz.f8 (OpenSpec.ofChange Rows.idealLatticeSpec) false w args)
      (Rows.idealLatticeSpec.post enc Tryz.prog Tryz.f8 false true false false) := by
  refine returnsInHanded_of_change_and (C := Tryz.checked) (X := fun w _ => laidMetH Tryz.prog [("math/bits.deBruijn32tab", Rows.laid_math_bits_deBruijn32tab), ("math/bits.deBruijn64tab", Rows.laid_math_bits_deBruijn64tab), ("internal/strconv.uint64pow10", Rows.laid_internal_strconv_uint64pow10)] w) (fun _ _ _ hh h => h.of_heap hh) idealLattice_own started (by kernel_rfl) Tryz.func8
    (ChangeSpec.witness_shaped (enc := enc) (C := Tryz.checked) (os := os) (X := fun w _ => laidMetH Tryz.prog [("math/bits.deBruijn32tab", Rows.laid_math_bits_deBruijn32tab), ("math/bits.deBruijn64tab", Rows.laid_math_bits_deBruijn64tab), ("internal/strconv.uint64pow10", Rows.laid_internal_strconv_uint64pow10)] w) false (World.doorLaid Tryz.prog 400 os) #[.agg #[.slice Option.none 0 0], .agg #[.int .i64 0, .slice Option.none 0 0], .agg #[.int .i64 0, .slice Option.none 0 0]] 8 rfl (World.shaped_of_RefB (by kernel_rfl) (by kernel_rfl)) (by kernel_rfl) (by kernel_rfl) (by kernel_rfl) (pmet os _)) ?_
  intro W base args ds gs before hval hW _ _ hL _
  exact law_contract idealLattice_laidOut (ts := [24, 27, 27]) (T := 4) rfl rfl Tryz.underlying4 (by kernel_rfl) rfl (fun ds h => by
    match ds, h with
    | [d1, d2, d3], _ => rfl) idealLattice_read hval hW (pgl hL)
theorem idealLattice_said : Rows.IdealLatticeSaid :=
  OpenClaim.holds_of_wide 8 Tryz.f8 rfl rfl rfl rfl rfl rfl rfl ⟨rfl, rfl, rfl, rfl, rfl⟩ rfl rfl rfl rfl rfl (by kernel_rfl) Tryz.func8 (by kernel_rfl)
    (of_decide_eq_true (by kernel_rfl)) (by unfold Func.isWrapper; first | (rw [if_pos (by decide +kernel)]; kernel_rfl) | (rw [if_neg (by decide +kernel)]; exact ⟨rfl, rfl⟩))
    (fun os started H enc _ => idealLattice_lifted os started H enc)
theorem idealLattice_holds : Rows.IdealLatticeCardSaid :=
  Claim7.holds_tied_plain_at .later [] [.data, .data, .data] true (true, "2869d84be59e4d2e309d76c6bfd336e6e6ffc6904606b427ff6f83e5f5091e4d") false
    idealLattice_said (fun _ h => by cases h) (by kernel_rfl) (fun _ h => by cases h) idealLattice_row_tie rfl ⟨rfl, rfl⟩ (by kernel_rfl) rfl
    (fun f fn hf hfn => by
      obtain rfl : f = 8 := Option.some.inj ((show Tryz.prog.funcNamed "antecede/antecedelaw10.IdealLattice" = some 8 by kernel_rfl).symm.trans hf) |>.symm
      obtain rfl : fn = Tryz.f8 := (Option.some.inj (Tryz.func8.symm.trans hfn)).symm
      exact ⟨by kernel_rfl, fun j t ht => by
        rw [Tryz.params8] at ht
        have hm : t ∈ [24, 27, 27] := by simpa using Array.mem_of_getElem? ht
        have hall : ([24, 27, 27].all fun u => !Tryz.prog.wantsStandIn u) = true := by kernel_rfl
        exact (show Tryz.prog.wantsStandIn t = false by simpa using List.all_eq_true.1 hall t hm)⟩)
    (by kernel_rfl)
end Go.Proofs.YtloonkbfooddiaaGreatDoor
