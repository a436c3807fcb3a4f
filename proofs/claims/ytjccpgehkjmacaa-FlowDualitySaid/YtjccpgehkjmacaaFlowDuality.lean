/- FlowDuality: for every input the law returns true, and the arguments read afterwards as they read before. No condition. -/
import Derived.Test.YtjccpgehkjmacaaFlowDualityP6
import Derived.WalkKit
import Derived.ProofKit
import Derived.KernelRfl
namespace Go.Proofs.Ytjccpgehkjmacaa
open Go.AM Go.ChangeShapes Go.WideShapes Go.ChangeAt Go.RowKit Go.Proofs
set_option linter.unusedVariables false
theorem flowDuality_own : ownKnob Try.prog.godebug = Option.none := by kernel_rfl
theorem flowDuality_laid : laidOutB Try.prog = true := by kernel_rfl
theorem flowDuality_read : ∀ ass, F2 (fun t x => ∃ n, Fit Try.prog n t x) [24, 3, 3] ass → Reads Try.prog 8 false (argsAV Try.prog [24, 3, 3] ass) (.bool true) := by
  intro ass h
  obtain ⟨x, y, z, rfl, ⟨f1, h1⟩, ⟨f2, h2⟩, ⟨f3, h3⟩⟩ := F2.three h
  obtain ⟨n, rfl, hl⟩ := fit_net h1
  obtain ⟨s, rfl, _⟩ := fit_int Try.underlying3 h2
  obtain ⟨t, rfl, _⟩ := fit_int Try.underlying3 h3
  have e1 : aggT Try.prog 24 = true := by kernel_rfl
  have e2 : aggT Try.prog 3 = false := by kernel_rfl
  have e : argsAV Try.prog [24, 3, 3] [[.int .i64 n.N, .rsl 3 (n.E.map edgeV)], [.int .i64 s], [.int .i64 t]] = [netV n, .int .i64 s, .int .i64 t] := by
    simp [argsAV, argAV, e1, e2, netV]
  rw [e]
  exact F.law_dual n s t hl

set_option maxRecDepth 100000 in
theorem flowDuality_lifted (os : Os) (started : os.Started) (H : Type) (enc : TypeId × Value → H) :
    ReturnsInHanded {} Try.checked os 8 .any (Rows.flowDualitySpec.pre6 enc Try.prog Try.f8 Rows.flowDualityRow.domain false) (Rows.flowDualitySpec.post enc Try.prog Try.f8 false true false false) := by
  refine returnsInHanded_of_change (C := Try.checked) flowDuality_own started (by kernel_rfl) Try.func8
    (ChangeSpec.witness6 (enc := enc) (C := Try.checked) false ⟨#[], #[.agg #[.int .i64 0, .slice Option.none 0 0], .int .i64 0, .int .i64 0], []⟩ 8 (by kernel_rfl) (by kernel_rfl) (by kernel_rfl) (by kernel_rfl)) ?_
  intro W base args ds gs before hval hW _ _
  exact law_contract flowDuality_laid (ts := [24, 3, 3]) (T := 4) rfl rfl Try.underlying4 (by kernel_rfl) rfl (fun ds h => by
    match ds, h with
    | [d1, d2, d3], _ => rfl) flowDuality_read hval hW
theorem flowDuality_holds : Rows.FlowDualitySaid :=
  OpenClaim.holds_of_wide 8 Try.f8 rfl rfl rfl rfl rfl rfl rfl ⟨rfl, rfl, rfl, rfl, rfl⟩ rfl rfl rfl rfl rfl (by kernel_rfl) Try.func8 (by kernel_rfl)
    (of_decide_eq_true (by kernel_rfl)) (by unfold Func.isWrapper; first | (rw [if_pos (by decide +kernel)]; kernel_rfl) | (rw [if_neg (by decide +kernel)]; exact ⟨rfl, rfl⟩))
    (fun os started H enc _ => flowDuality_lifted os started H enc)
end Go.Proofs.Ytjccpgehkjmacaa
