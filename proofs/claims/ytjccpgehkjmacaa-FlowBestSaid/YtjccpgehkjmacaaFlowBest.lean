/- FlowBest: for every input the law returns true, and the arguments read afterwards as they read before. No condition. -/
import Derived.Test.YtjccpgehkjmacaaFlowBestP5
import Derived.WalkKit
import Derived.ProofKit
import Derived.KernelRfl
namespace Go.Proofs.Ytjccpgehkjmacaa
open Go.AM Go.ChangeShapes Go.WideShapes Go.ChangeAt Go.RowKit Go.Proofs
set_option linter.unusedVariables false
theorem flowBest_own : ownKnob Try.prog.godebug = Option.none := by kernel_rfl
theorem flowBest_laid : laidOutB Try.prog = true := by kernel_rfl
theorem flowBest_read : ∀ ass, F2 (fun t x => ∃ n, Fit Try.prog n t x) [27, 44] ass → Reads Try.prog 6 false (argsAV Try.prog [27, 44] ass) (.bool true) := by
  intro ass h
  obtain ⟨x, y, rfl, ⟨f1, h1⟩, ⟨f2, h2⟩⟩ := F2.two h
  obtain ⟨ws, rfl, hl⟩ := fit_ints h1
  obtain ⟨ns, rfl, hl2⟩ := fit_pairs h2
  have e1 : aggT Try.prog 27 = false := by kernel_rfl
  have e2 : aggT Try.prog 44 = false := by kernel_rfl
  have e : argsAV Try.prog [27, 44] [[.rsl 1 (ints ws)], [.rsl 2 (ns.map pairV)]] = [.rsl 1 (ints ws), .rsl 2 (ns.map pairV)] := by
    simp [argsAV, argAV, e1, e2]
  rw [e]
  exact F.law_best ws ns hl hl2

set_option maxRecDepth 100000 in
theorem flowBest_lifted (os : Os) (started : os.Started) (H : Type) (enc : TypeId × Value → H) :
    ReturnsInHanded {} Try.checked os 6 .any (Rows.flowBestSpec.pre6 enc Try.prog Try.f6 Rows.flowBestRow.domain false) (Rows.flowBestSpec.post enc Try.prog Try.f6 false true false false) := by
  refine returnsInHanded_of_change (C := Try.checked) flowBest_own started (by kernel_rfl) Try.func6
    (ChangeSpec.witness6 (enc := enc) (C := Try.checked) false ⟨#[], #[.slice Option.none 0 0, .slice Option.none 0 0], []⟩ 8 (by kernel_rfl) (by kernel_rfl) (by kernel_rfl) (by kernel_rfl)) ?_
  intro W base args ds gs before hval hW _ _
  exact law_contract flowBest_laid (ts := [27, 44]) (T := 4) rfl rfl Try.underlying4 (by kernel_rfl) rfl (fun ds h => by
    match ds, h with
    | [d1, d2], _ => rfl) flowBest_read hval hW
theorem flowBest_holds : Rows.FlowBestSaid :=
  OpenClaim.holds_of_wide 6 Try.f6 rfl rfl rfl rfl rfl rfl rfl ⟨rfl, rfl, rfl, rfl, rfl⟩ rfl rfl rfl rfl rfl (by kernel_rfl) Try.func6 (by kernel_rfl)
    (of_decide_eq_true (by kernel_rfl)) (by unfold Func.isWrapper; first | (rw [if_pos (by decide +kernel)]; kernel_rfl) | (rw [if_neg (by decide +kernel)]; exact ⟨rfl, rfl⟩))
    (fun os started H enc _ => flowBest_lifted os started H enc)
end Go.Proofs.Ytjccpgehkjmacaa
