/- RelationLeast: for every input the law returns true, and the arguments read afterwards as they read before. No condition. -/
import Derived.Test.YtmnlkidfcnhhhaaRelationLeastP4
import Derived.WalkKit
import Derived.ProofKit
import Derived.KernelRfl
namespace Go.Proofs.Ytmnlkidfcnhhhaa
open Go.AM Go.ChangeShapes Go.WideShapes Go.ChangeAt Go.RowKit Go.Proofs
set_option linter.unusedVariables false
theorem relationLeast_own : ownKnob Try.prog.godebug = Option.none := by kernel_rfl
theorem relationLeast_laid : laidOutB Try.prog = true := by kernel_rfl
theorem relationLeast_read : ∀ ass, F2 (fun t x => ∃ n, Fit Try.prog n t x) [24, 24] ass → Reads Try.prog 7 false (argsAV Try.prog [24, 24] ass) (.bool true) := by
  intro ass h
  obtain ⟨x, y, rfl, ⟨f1, h1⟩, ⟨f2, h2⟩⟩ := F2.two h
  obtain ⟨rs, rfl, hl, hok⟩ := fit_rel h1
  obtain ⟨us, rfl, hl2, hok2⟩ := fit_rel h2
  have e1 : aggT Try.prog 24 = true := by kernel_rfl
  have e : argsAV Try.prog [24, 24] [[.rsl 2 (rs.map rowV)], [.rsl 2 (us.map rowV)]] = [relV rs, relV us] := by
    simp [argsAV, argAV, e1, relV]
  rw [e]
  exact R.law_least rs us hl hl2 hok hok2

set_option maxRecDepth 100000 in
theorem relationLeast_lifted (os : Os) (started : os.Started) (H : Type) (enc : TypeId × Value → H) :
    ReturnsInHanded {} Try.checked os 7 .any (Rows.relationLeastSpec.pre6 enc Try.prog Try.f7 Rows.relationLeastRow.domain false) (Rows.relationLeastSpec.post enc Try.prog Try.f7 false true false false) := by
  refine returnsInHanded_of_change (C := Try.checked) relationLeast_own started (by kernel_rfl) Try.func7
    (ChangeSpec.witness6 (enc := enc) (C := Try.checked) false ⟨#[], #[.agg #[.slice Option.none 0 0], .agg #[.slice Option.none 0 0]], []⟩ 8 (by kernel_rfl) (by kernel_rfl) (by kernel_rfl) (by kernel_rfl)) ?_
  intro W base args ds gs before hval hW _ _
  exact law_contract relationLeast_laid (ts := [24, 24]) (T := 4) rfl rfl Try.underlying4 (by kernel_rfl) rfl (fun ds h => by
    match ds, h with
    | [d1, d2], _ => rfl) relationLeast_read hval hW gl_none
theorem relationLeast_holds : Rows.RelationLeastSaid :=
  OpenClaim.holds_of_wide 7 Try.f7 rfl rfl rfl rfl rfl rfl rfl ⟨rfl, rfl, rfl, rfl, rfl⟩ rfl rfl rfl rfl rfl (by kernel_rfl) Try.func7 (by kernel_rfl)
    (of_decide_eq_true (by kernel_rfl)) (by unfold Func.isWrapper; first | (rw [if_pos (by decide +kernel)]; kernel_rfl) | (rw [if_neg (by decide +kernel)]; exact ⟨rfl, rfl⟩))
    (fun os started H enc _ => relationLeast_lifted os started H enc)
end Go.Proofs.Ytmnlkidfcnhhhaa
