/- RelationAlgebra: for every input the law returns true, and the arguments read afterwards as they read before. No condition. -/
import Derived.Test.YtmnlkidfcnhhhaaRelationAlgebraP5
import Derived.WalkKit
import Derived.ProofKit
import Derived.KernelRfl
namespace Go.Proofs.Ytmnlkidfcnhhhaa
open Go.AM Go.ChangeShapes Go.WideShapes Go.ChangeAt Go.RowKit Go.Proofs
set_option linter.unusedVariables false
theorem relationAlgebra_own : ownKnob Try.prog.godebug = Option.none := by kernel_rfl
theorem relationAlgebra_laid : laidOutB Try.prog = true := by kernel_rfl
theorem relationAlgebra_read : ∀ ass, F2 (fun t x => ∃ n, Fit Try.prog n t x) [24, 24, 24] ass → Reads Try.prog 4 false (argsAV Try.prog [24, 24, 24] ass) (.bool true) := by
  intro ass h
  obtain ⟨x, y, z, rfl, ⟨f1, h1⟩, ⟨f2, h2⟩, ⟨f3, h3⟩⟩ := F2.three h
  obtain ⟨rs, rfl, hl, hok⟩ := fit_rel h1
  obtain ⟨us, rfl, hl2, hok2⟩ := fit_rel h2
  obtain ⟨vs, rfl, hl3, hok3⟩ := fit_rel h3
  have e1 : aggT Try.prog 24 = true := by kernel_rfl
  have e : argsAV Try.prog [24, 24, 24] [[.rsl 2 (rs.map rowV)], [.rsl 2 (us.map rowV)], [.rsl 2 (vs.map rowV)]] = [relV rs, relV us, relV vs] := by
    simp [argsAV, argAV, e1, relV]
  rw [e]
  exact R.law_algebra rs us vs hl hl2 hl3 hok hok2 hok3

set_option maxRecDepth 100000 in
theorem relationAlgebra_lifted (os : Os) (started : os.Started) (H : Type) (enc : TypeId × Value → H) :
    ReturnsInHanded {} Try.checked os 4 .any (Rows.relationAlgebraSpec.pre6 enc Try.prog Try.f4 Rows.relationAlgebraRow.domain false) (Rows.relationAlgebraSpec.post enc Try.prog Try.f4 false true false false) := by
  refine returnsInHanded_of_change (C := Try.checked) relationAlgebra_own started (by kernel_rfl) Try.func4
    (ChangeSpec.witness6 (enc := enc) (C := Try.checked) false ⟨#[], #[.agg #[.slice Option.none 0 0], .agg #[.slice Option.none 0 0], .agg #[.slice Option.none 0 0]], []⟩ 8 (by kernel_rfl) (by kernel_rfl) (by kernel_rfl) (by kernel_rfl)) ?_
  intro W base args ds gs before hval hW _ _
  exact law_contract relationAlgebra_laid (ts := [24, 24, 24]) (T := 4) rfl rfl Try.underlying4 (by kernel_rfl) rfl (fun ds h => by
    match ds, h with
    | [d1, d2, d3], _ => rfl) relationAlgebra_read hval hW
theorem relationAlgebra_holds : Rows.RelationAlgebraSaid :=
  OpenClaim.holds_of_wide 4 Try.f4 rfl rfl rfl rfl rfl rfl rfl ⟨rfl, rfl, rfl, rfl, rfl⟩ rfl rfl rfl rfl rfl (by kernel_rfl) Try.func4 (by kernel_rfl)
    (of_decide_eq_true (by kernel_rfl)) (by unfold Func.isWrapper; first | (rw [if_pos (by decide +kernel)]; kernel_rfl) | (rw [if_neg (by decide +kernel)]; exact ⟨rfl, rfl⟩))
    (fun os started H enc _ => relationAlgebra_lifted os started H enc)
end Go.Proofs.Ytmnlkidfcnhhhaa
