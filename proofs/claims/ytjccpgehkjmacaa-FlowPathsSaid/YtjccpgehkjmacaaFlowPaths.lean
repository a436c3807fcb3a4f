/- FlowPaths: for every input the law returns true, and the arguments read afterwards as they read before. No condition. -/
import Derived.Test.YtjccpgehkjmacaaFlowPathsP6
import Derived.WalkKit
import Derived.ProofKit
import Derived.KernelRfl
namespace Go.Proofs.Ytjccpgehkjmacaa
open Go.AM Go.ChangeShapes Go.WideShapes Go.ChangeAt Go.RowKit Go.Proofs
set_option linter.unusedVariables false
theorem flowPaths_own : ownKnob Try.prog.godebug = Option.none := by kernel_rfl
theorem flowPaths_laid : laidOutB Try.prog = true := by kernel_rfl
theorem flowPaths_read : ∀ ass, F2 (fun t x => ∃ n, Fit Try.prog n t x) [24, 3, 3, 27] ass → Reads Try.prog 9 false (argsAV Try.prog [24, 3, 3, 27] ass) (.bool true) := by
  intro ass h
  obtain ⟨x, y, z, u, rfl, ⟨f1, h1⟩, ⟨f2, h2⟩, ⟨f3, h3⟩, ⟨f4, h4⟩⟩ := F2.four h
  obtain ⟨n, rfl, hl⟩ := fit_net h1
  obtain ⟨s, rfl, _⟩ := fit_int Try.underlying3 h2
  obtain ⟨t, rfl, _⟩ := fit_int Try.underlying3 h3
  obtain ⟨fl, rfl, hfl⟩ := fit_ints h4
  have e1 : aggT Try.prog 24 = true := by kernel_rfl
  have e2 : aggT Try.prog 3 = false := by kernel_rfl
  have e3 : aggT Try.prog 27 = false := by kernel_rfl
  have e : argsAV Try.prog [24, 3, 3, 27] [[.int .i64 n.N, .rsl 3 (n.E.map edgeV)], [.int .i64 s], [.int .i64 t], [.rsl 1 (ints fl)]] = [netV n, .int .i64 s, .int .i64 t, .rsl 1 (ints fl)] := by
    simp [argsAV, argAV, e1, e2, e3, netV]
  rw [e]
  exact F.law_paths n s t fl hl hfl

set_option maxRecDepth 100000 in
theorem flowPaths_lifted (os : Os) (started : os.Started) (H : Type) (enc : TypeId × Value → H) :
    ReturnsInHanded {} Try.checked os 9 .any (Rows.flowPathsSpec.pre6 enc Try.prog Try.f9 Rows.flowPathsRow.domain false) (Rows.flowPathsSpec.post enc Try.prog Try.f9 false true false false) := by
  refine returnsInHanded_of_change (C := Try.checked) flowPaths_own started (by kernel_rfl) Try.func9
    (ChangeSpec.witness6 (enc := enc) (C := Try.checked) false ⟨#[], #[.agg #[.int .i64 0, .slice Option.none 0 0], .int .i64 0, .int .i64 0, .slice Option.none 0 0], []⟩ 8 (by kernel_rfl) (by kernel_rfl) (by kernel_rfl) (by kernel_rfl)) ?_
  intro W base args ds gs before hval hW _ _
  exact law_contract flowPaths_laid (ts := [24, 3, 3, 27]) (T := 4) rfl rfl Try.underlying4 (by kernel_rfl) rfl (fun ds h => by
    match ds, h with
    | [d1, d2, d3, d4], _ => rfl) flowPaths_read hval hW
theorem flowPaths_holds : Rows.FlowPathsSaid :=
  OpenClaim.holds_of_wide 9 Try.f9 rfl rfl rfl rfl rfl rfl rfl ⟨rfl, rfl, rfl, rfl, rfl⟩ rfl rfl rfl rfl rfl (by kernel_rfl) Try.func9 (by kernel_rfl)
    (of_decide_eq_true (by kernel_rfl)) (by unfold Func.isWrapper; first | (rw [if_pos (by decide +kernel)]; kernel_rfl) | (rw [if_neg (by decide +kernel)]; exact ⟨rfl, rfl⟩))
    (fun os started H enc _ => flowPaths_lifted os started H enc)
end Go.Proofs.Ytjccpgehkjmacaa
