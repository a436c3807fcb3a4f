/- RelationOrders: for every input the law returns true, and the arguments read afterwards as they read before. No condition. -/
import Derived.Test.YtmnlkidfcnhhhaaRelationOrdersP6
import Derived.WalkKit
import Derived.ProofKit
import Derived.KernelRfl
namespace Go.Proofs.Ytmnlkidfcnhhhaa
open Go.AM Go.ChangeShapes Go.WideShapes Go.ChangeAt Go.RowKit Go.Proofs
set_option linter.unusedVariables false
theorem relationOrders_own : ownKnob Try.prog.godebug = Option.none := by kernel_rfl
theorem relationOrders_laid : laidOutB Try.prog = true := by kernel_rfl
theorem relationOrders_read : ∀ ass, F2 (fun t x => ∃ n, Fit Try.prog n t x) [24] ass → Reads Try.prog 6 false (argsAV Try.prog [24] ass) (.bool true) := by
  intro ass h
  obtain ⟨x, rfl, f1, h1⟩ := F2.one h
  obtain ⟨rs, rfl, hl, hok⟩ := fit_rel h1
  have e1 : aggT Try.prog 24 = true := by kernel_rfl
  have e : argsAV Try.prog [24] [[.rsl 2 (rs.map rowV)]] = [relV rs] := by
    simp [argsAV, argAV, e1, relV]
  rw [e]
  exact R.law_orders rs hl hok

set_option maxRecDepth 100000 in
theorem relationOrders_lifted (os : Os) (started : os.Started) (H : Type) (enc : TypeId × Value → H) :
    ReturnsInHanded {} Try.checked os 6 .any (Rows.relationOrdersSpec.pre6 enc Try.prog Try.f6 Rows.relationOrdersRow.domain false) (Rows.relationOrdersSpec.post enc Try.prog Try.f6 false true false false) := by
  refine returnsInHanded_of_change (C := Try.checked) relationOrders_own started (by kernel_rfl) Try.func6
    (ChangeSpec.witness6 (enc := enc) (C := Try.checked) false ⟨#[], #[.agg #[.slice Option.none 0 0]], []⟩ 8 (by kernel_rfl) (by kernel_rfl) (by kernel_rfl) (by kernel_rfl)) ?_
  intro W base args ds gs before hval hW _ _
  exact law_contract relationOrders_laid (ts := [24]) (T := 4) rfl rfl Try.underlying4 (by kernel_rfl) rfl (fun ds h => by
    match ds, h with
    | [d1], _ => rfl) relationOrders_read hval hW
theorem relationOrders_holds : Rows.RelationOrdersSaid :=
  OpenClaim.holds_of_wide 6 Try.f6 rfl rfl rfl rfl rfl rfl rfl ⟨rfl, rfl, rfl, rfl, rfl⟩ rfl rfl rfl rfl rfl (by kernel_rfl) Try.func6 (by kernel_rfl)
    (of_decide_eq_true (by kernel_rfl)) (by unfold Func.isWrapper; first | (rw [if_pos (by decide +kernel)]; kernel_rfl) | (rw [if_neg (by decide +kernel)]; exact ⟨rfl, rfl⟩))
    (fun os started H enc _ => relationOrders_lifted os started H enc)
end Go.Proofs.Ytmnlkidfcnhhhaa
