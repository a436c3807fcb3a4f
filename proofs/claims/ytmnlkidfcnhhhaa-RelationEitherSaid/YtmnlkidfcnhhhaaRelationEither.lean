/- RelationEither: for every input the law returns true, and the arguments read afterwards as they read before. No condition. -/
import Derived.Test.YtmnlkidfcnhhhaaRelationEitherP5
import Derived.WalkKit
import Derived.ProofKit
import Derived.KernelRfl
namespace Go.Proofs.Ytmnlkidfcnhhhaa
open Go.AM Go.ChangeShapes Go.WideShapes Go.ChangeAt Go.RowKit Go.Proofs
set_option linter.unusedVariables false
theorem relationEither_own : ownKnob Try.prog.godebug = Option.none := by kernel_rfl
theorem relationEither_laid : laidOutB Try.prog = true := by kernel_rfl
theorem relationEither_read : ∀ ass, F2 (fun t x => ∃ n, Fit Try.prog n t x) [24] ass → Reads Try.prog 8 false (argsAV Try.prog [24] ass) (.bool true) := by
  intro ass h
  obtain ⟨x, rfl, f1, h1⟩ := F2.one h
  obtain ⟨rs, rfl, hl, hok⟩ := fit_rel h1
  have e1 : aggT Try.prog 24 = true := by kernel_rfl
  have e : argsAV Try.prog [24] [[.rsl 2 (rs.map rowV)]] = [relV rs] := by
    simp [argsAV, argAV, e1, relV]
  rw [e]
  exact R.law_either rs hl hok

set_option maxRecDepth 100000 in
theorem relationEither_lifted (os : Os) (started : os.Started) (H : Type) (enc : TypeId × Value → H) :
    ReturnsInHanded {} Try.checked os 8 .any (Rows.relationEitherSpec.pre6 enc Try.prog Try.f8 Rows.relationEitherRow.domain false) (Rows.relationEitherSpec.post enc Try.prog Try.f8 false true false false) := by
  refine returnsInHanded_of_change (C := Try.checked) relationEither_own started (by kernel_rfl) Try.func8
    (ChangeSpec.witness6 (enc := enc) (C := Try.checked) false ⟨#[], #[.agg #[.slice Option.none 0 0]], []⟩ 8 (by kernel_rfl) (by kernel_rfl) (by kernel_rfl) (by kernel_rfl)) ?_
  intro W base args ds gs before hval hW _ _
  exact law_contract relationEither_laid (ts := [24]) (T := 4) rfl rfl Try.underlying4 (by kernel_rfl) rfl (fun ds h => by
    match ds, h with
    | [d1], _ => rfl) relationEither_read hval hW
theorem relationEither_holds : Rows.RelationEitherSaid :=
  OpenClaim.holds_of_wide 8 Try.f8 rfl rfl rfl rfl rfl rfl rfl ⟨rfl, rfl, rfl, rfl, rfl⟩ rfl rfl rfl rfl rfl (by kernel_rfl) Try.func8 (by kernel_rfl)
    (of_decide_eq_true (by kernel_rfl)) (by unfold Func.isWrapper; first | (rw [if_pos (by decide +kernel)]; kernel_rfl) | (rw [if_neg (by decide +kernel)]; exact ⟨rfl, rfl⟩))
    (fun os started H enc _ => relationEither_lifted os started H enc)
end Go.Proofs.Ytmnlkidfcnhhhaa
