/- MatchingBerge: for every input the law returns true, and the arguments read afterwards as they read before. No condition. -/
import Derived.Test.YtadfdoalifmkhaaMatchingBergeP5
import Derived.WalkKit
import Derived.ProofKit
import Derived.KernelRfl
namespace Go.Proofs.Ytadfdoalifmkhaa
open Go.AM Go.ChangeShapes Go.WideShapes Go.ChangeAt Go.RowKit Go.Proofs
set_option linter.unusedVariables false
theorem matchingBerge_own : ownKnob Try.prog.godebug = Option.none := by kernel_rfl
theorem matchingBerge_laid : laidOutB Try.prog = true := by kernel_rfl
theorem matchingBerge_read : ∀ ass, F2 (fun t x => ∃ n, Fit Try.prog n t x) [3, 3, 22, 22] ass → Reads Try.prog 8 false (argsAV Try.prog [3, 3, 22, 22] ass) (.bool true) := by
  intro ass h
  obtain ⟨x1, x2, x3, x4, rfl, ⟨f1, h1⟩, ⟨f2, h2⟩, ⟨f3, h3⟩, ⟨f4, h4⟩⟩ := F2.four h
  obtain ⟨n, rfl, _⟩ := fit_int Try.underlying3 h1
  obtain ⟨m, rfl, _⟩ := fit_int Try.underlying3 h2
  obtain ⟨E, rfl, hl⟩ := fit_pairs h3
  obtain ⟨P, rfl, hlP⟩ := fit_pairs h4
  have e1 : aggT Try.prog 3 = false := by kernel_rfl
  have e2 : aggT Try.prog 22 = false := by kernel_rfl
  have e : argsAV Try.prog [3, 3, 22, 22] [[.int .i64 n], [.int .i64 m], [.rsl 2 (E.map pairV)], [.rsl 2 (P.map pairV)]] = [.int .i64 n, .int .i64 m, .rsl 2 (E.map pairV), .rsl 2 (P.map pairV)] := by
    simp [argsAV, argAV, e1, e2]
  rw [e]
  exact M.law_berge n m E P hl hlP

set_option maxRecDepth 100000 in
theorem matchingBerge_lifted (os : Os) (started : os.Started) (H : Type) (enc : TypeId × Value → H) :
    ReturnsInHanded {} Try.checked os 8 .any (Rows.matchingBergeSpec.pre6 enc Try.prog Try.f8 Rows.matchingBergeRow.domain false) (Rows.matchingBergeSpec.post enc Try.prog Try.f8 false true false false) := by
  refine returnsInHanded_of_change (C := Try.checked) matchingBerge_own started (by kernel_rfl) Try.func8
    (ChangeSpec.witness6 (enc := enc) (C := Try.checked) false ⟨#[], #[.int .i64 0, .int .i64 0, .slice Option.none 0 0, .slice Option.none 0 0], []⟩ 8 (by kernel_rfl) (by kernel_rfl) (by kernel_rfl) (by kernel_rfl)) ?_
  intro W base args ds gs before hval hW _ _
  exact law_contract matchingBerge_laid (ts := [3, 3, 22, 22]) (T := 4) rfl rfl Try.underlying4 (by kernel_rfl) rfl (fun ds h => by
    match ds, h with
    | [d1, d2, d3, d4], _ => rfl) matchingBerge_read hval hW gl_none
theorem matchingBerge_holds : Rows.MatchingBergeSaid :=
  OpenClaim.holds_of_wide 8 Try.f8 rfl rfl rfl rfl rfl rfl rfl ⟨rfl, rfl, rfl, rfl, rfl⟩ rfl rfl rfl rfl rfl (by kernel_rfl) Try.func8 (by kernel_rfl)
    (of_decide_eq_true (by kernel_rfl)) (by unfold Func.isWrapper; first | (rw [if_pos (by decide +kernel)]; kernel_rfl) | (rw [if_neg (by decide +kernel)]; exact ⟨rfl, rfl⟩))
    (fun os started H enc _ => matchingBerge_lifted os started H enc)
end Go.Proofs.Ytadfdoalifmkhaa
