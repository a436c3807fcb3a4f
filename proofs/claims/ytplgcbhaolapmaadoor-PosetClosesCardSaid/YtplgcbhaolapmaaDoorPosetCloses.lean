/- PosetCloses: for every input the law returns true, and the arguments read afterwards as they read before. Condition: the package variable math/bits.deBruijn64tab starts as the program's text lays it, which the card ties to the text (a pruned copy of the project). -/
import Derived.Test.YtplgcbhaolapmaaDoorPosetClosesP6
import Derived.WalkKit
import Derived.ProofKit
import Derived.KernelRfl
import Derived.LaidMore
import Derived.LaidLaws
import Derived.Stop.Joined
import Derived.SevenTiedAt
import Derived.Test.YtplgcbhaolapmaaDoorCards
import Derived.Test.YtplgcbhaolapmaaDoorTie
namespace Go.Proofs.YtplgcbhaolapmaaDoor
open Go.AM Go.ChangeShapes Go.WideShapes Go.ChangeAt Go.RowKit Go.Proofs
set_option linter.unusedVariables false
theorem posetCloses_own : ownKnob Tryd.prog.godebug = Option.none := by kernel_rfl
theorem posetCloses_laidOut : laidOutB Tryd.prog = true := by kernel_rfl
theorem posetCloses_read : ∀ ass, F2 (fun t x => ∃ n, Fit Tryd.prog n t x) [24, 35] ass → Reads Tryd.prog 9 false (argsAV Tryd.prog [24, 35] ass) (.bool true) := by
  intro ass h
  obtain ⟨x, y, rfl, ⟨f1, h1⟩, ⟨f2, h2⟩⟩ := F2.two h
  obtain ⟨rs, rfl, hl, hok⟩ := fit_rel h1
  obtain ⟨s, rfl, hlW, hW⟩ := fit_set h2
  have e1 : aggT Tryd.prog 24 = true := by kernel_rfl
  have e2 : aggT Tryd.prog 35 = true := by kernel_rfl
  have e : argsAV Tryd.prog [24, 35] [[.rsl 2 (rs.map rowV)], rowV s] = [relV rs, .agg [.int .i64 s.N, .rsl 1 (words s.W)]] := by
    simp [argsAV, argAV, e1, e2, relV, rowV]
  rw [e]
  exact P.law_closes rs hl hok s.N s.W hW hlW

set_option maxRecDepth 100000 in
theorem posetCloses_lifted (os : Os) (started : os.Started) (H : Type) (enc : TypeId × Value → H) :
    ReturnsInHanded {} Tryd.checked os 9 .any (fun w args => (Rows.posetClosesSpec.pre enc Tryd.prog Tryd.f9 [] false w args ∧ laidMetH Tryd.prog [("math/bits.deBruijn64tab", Rows.laid_math_bits_deBruijn64tab)] w) ∧ sizedMet enc Tryd.prog Tryd.f9 (OpenSpec.ofChange Rows.posetClosesSpec) false w args)
      (Rows.posetClosesSpec.post enc Tryd.prog Tryd.f9 false true false false) := by
  refine returnsInHanded_of_change_and (C := Tryd.checked) (X := fun w _ => laidMetH Tryd.prog [("math/bits.deBruijn64tab", Rows.laid_math_bits_deBruijn64tab)] w) (fun _ _ _ hh h => h.of_heap hh) posetCloses_own started (by kernel_rfl) Tryd.func9
    (ChangeSpec.witness_shaped (enc := enc) (C := Tryd.checked) (os := os) (X := fun w _ => laidMetH Tryd.prog [("math/bits.deBruijn64tab", Rows.laid_math_bits_deBruijn64tab)] w) false (World.doorLaid Tryd.prog 400 os) #[.agg #[.slice Option.none 0 0], .agg #[.int .i64 0, .slice Option.none 0 0]] 8 rfl (World.shaped_of_RefB (by kernel_rfl) (by kernel_rfl)) (by kernel_rfl) (by kernel_rfl) (by kernel_rfl) (pmet os _)) ?_
  intro W base args ds gs before hval hW _ _ hL _
  exact law_contract posetCloses_laidOut (ts := [24, 35]) (T := 4) rfl rfl Tryd.underlying4 (by kernel_rfl) rfl (fun ds h => by
    match ds, h with
    | [d1, d2], _ => rfl) posetCloses_read hval hW (pgl hL)
theorem posetCloses_said : Rows.PosetClosesSaid :=
  OpenClaim.holds_of_wide 9 Tryd.f9 rfl rfl rfl rfl rfl rfl rfl ⟨rfl, rfl, rfl, rfl, rfl⟩ rfl rfl rfl rfl rfl (by kernel_rfl) Tryd.func9 (by kernel_rfl)
    (of_decide_eq_true (by kernel_rfl)) (by unfold Func.isWrapper; first | (rw [if_pos (by decide +kernel)]; kernel_rfl) | (rw [if_neg (by decide +kernel)]; exact ⟨rfl, rfl⟩))
    (fun os started H enc _ => posetCloses_lifted os started H enc)
theorem posetCloses_holds : Rows.PosetClosesCardSaid :=
  Claim7.holds_tied_plain_at .later [] [.data] true (true, "a361218d41a5c5d17e0ed7782a2da52aec5773f886dde842864160d25c59f8c7") false
    posetCloses_said (fun _ h => by cases h) (by kernel_rfl) (fun _ h => by cases h) posetCloses_row_tie rfl ⟨rfl, rfl⟩ (by kernel_rfl) rfl
    (fun f fn hf hfn => by
      obtain rfl : f = 9 := Option.some.inj ((show Tryd.prog.funcNamed "antecede/antecedelaw06.PosetCloses" = some 9 by kernel_rfl).symm.trans hf) |>.symm
      obtain rfl : fn = Tryd.f9 := (Option.some.inj (Tryd.func9.symm.trans hfn)).symm
      exact ⟨by kernel_rfl, fun j t ht => by
        rw [Tryd.params9] at ht
        have hm : t ∈ [24, 35] := by simpa using Array.mem_of_getElem? ht
        have hall : ([24, 35].all fun u => !Tryd.prog.wantsStandIn u) = true := by kernel_rfl
        exact (show Tryd.prog.wantsStandIn t = false by simpa using List.all_eq_true.1 hall t hm)⟩)
    (by kernel_rfl)
end Go.Proofs.YtplgcbhaolapmaaDoor
