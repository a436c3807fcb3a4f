/- Lemmas and contracts, part 6: an abstract machine over the model, and the functions that the statement reaches. -/
import Derived.Test.YtcnldaccdojdkaaDoorDimensionChecksP5
import Derived.Test.YtcnldaccdojdkaaDoorRows
set_option linter.unusedVariables false
set_option linter.unusedSimpArgs false
open Nat renaming reduceAdd → zA, reduceMul → zM, reduceEqDiff → zE, reduceLT → zL, reduceLeDiff → zD, reduceSub → zS, reducePow → zP, reduceBEq → zB
open Int renaming reduceToNat → zI
open List renaming reduceReplicate → zR
/- The shapes of the dimension laws' arguments. -/
namespace Go.AM
open Go.Proofs
theorem fit_words {f : Nat} {x : List AV} (h : Fit Tryd.prog f 67 x) : ∃ W : List Int, x = [.rsl 1 (words W)] ∧ W.length ≤ 9223372036854775807 ∧ okW W := by
  obtain ⟨es, f2, rfl, h5, h6⟩ := fit_slice (m := 1) Tryd.underlying67 (by kernel_rfl) (by decide) h
  obtain ⟨ws, rfl, hw⟩ := exists_mapP (f := fun x : Int => [AV.int .u64 x]) (p := fun w => 0 ≤ w ∧ w ≤ 18446744073709551615) fun y hy => by
    obtain ⟨n, e, h1, h2⟩ := fit_int Tryd.underlying81 (h6 y hy)
    exact ⟨n, e, by simpa [IntKind.min, IntKind.signed] using h1, by simpa [IntKind.max, IntKind.signed, IntKind.bits] using h2⟩
  exact ⟨ws, rfl, by simpa [maxLen] using h5, okW_of hw⟩
theorem fit_set {f : Nat} {x : List AV} (h : Fit Tryd.prog f 69 x) : ∃ y : USet, x = rowV y ∧ y.W.length ≤ 9223372036854775807 ∧ okW y.W := by
  obtain ⟨f', parts, rfl, h2⟩ := fit_struct Tryd.underlying69 h
  obtain ⟨a, b, rfl, h3, h4⟩ := F2.two h2
  obtain ⟨i, rfl, _⟩ := fit_int Tryd.underlying3 h3
  obtain ⟨W, rfl, h5, h6⟩ := fit_words h4
  exact ⟨⟨i, W⟩, rfl, h5, h6⟩
theorem F2.one {α β : Type} {R : α → β → Prop} {a : α} {l : List β} (h : F2 R [a] l) : ∃ x, l = [x] ∧ R a x := by
  cases h with | cons h1 t => cases t with | nil => exact ⟨_, rfl, h1⟩
theorem fit_rel {f : Nat} {x : List AV} (h : Fit Tryd.prog f 24 x) : ∃ rs : List USet, x = [.rsl 2 (rs.map rowV)] ∧ (rs.length ≤ 9223372036854775807 ∧ ∀ y ∈ rs, y.W.length ≤ 9223372036854775807) ∧ ∀ y ∈ rs, okW y.W := by
  obtain ⟨f', parts, rfl, h2⟩ := fit_struct Tryd.underlying24 h
  obtain ⟨a, rfl, h3⟩ := F2.one h2
  obtain ⟨es, f2, rfl, h5, h6⟩ := fit_slice (m := 2) Tryd.underlying22 (by kernel_rfl) (by decide) h3
  obtain ⟨rs, rfl, hr⟩ := exists_mapP (f := rowV) (p := fun y => y.W.length ≤ 9223372036854775807 ∧ okW y.W) fun y hy => fit_set (h6 y hy)
  exact ⟨rs, rfl, ⟨by simpa [maxLen] using h5, fun y hy => (hr y hy).1⟩, fun y hy => (hr y hy).2⟩
theorem fit_ints {f : Nat} {x : List AV} (h : Fit Tryd.prog f 36 x) : ∃ l : List Int, x = [.rsl 1 (ints l)] ∧ l.length ≤ 9223372036854775807 := by
  obtain ⟨es, f2, rfl, h5, h6⟩ := fit_slice (m := 1) Tryd.underlying36 (by kernel_rfl) (by decide) h
  obtain ⟨l, rfl, _⟩ := exists_mapP (f := fun x : Int => [AV.int .i64 x]) (p := fun _ => True) fun y hy => by
    obtain ⟨n, e, _⟩ := fit_int Tryd.underlying3 (h6 y hy)
    exact ⟨n, e, trivial⟩
  exact ⟨l, rfl, by simpa [maxLen] using h5⟩
theorem fit_lists {f : Nat} {x : List AV} (h : Fit Tryd.prog f 25 x) : ∃ cs : List (List Int), x = [.rsl 1 (lisR cs)] ∧ cs.length ≤ 9223372036854775807 ∧ ∀ c ∈ cs, c.length ≤ 9223372036854775807 := by
  obtain ⟨es, f2, rfl, h5, h6⟩ := fit_slice (m := 1) Tryd.underlying25 (by kernel_rfl) (by decide) h
  obtain ⟨cs, rfl, hc⟩ := exists_mapP (f := fun c : List Int => [AV.rsl 1 (ints c)]) (p := fun c => c.length ≤ 9223372036854775807) fun y hy => fit_ints (h6 y hy)
  exact ⟨cs, rfl, by simpa [maxLen] using h5, hc⟩
theorem pgl {W : World} (h : laidMetH Tryd.prog [("math/bits.deBruijn64tab", .agg (tzTab.map fun i => .lit (.int .u8 i)))] W) : GL (immF W fun _ => False) W := fun g cs e => by
  cases g with
  | zero =>
    rw [globA_aux] at e
    obtain rfl := Option.some.inj e
    exact rptr_of_laid (L := tzTab) (by kernel_rfl : Tryd.prog.globalNamed "math/bits.deBruijn64tab" = some 0) (by kernel_rfl : (Tryd.prog.globals[0]?).map (·.type) = some 115) (e := 5) Tryd.underlying115 (by kernel_rfl) (by kernel_rfl) Tryd.underlying5 (by decide) (laidMet_of_H h)
  | succ g => cases e
theorem pmet (os : Os) (args : Array Value) : laidMetH Tryd.prog [("math/bits.deBruijn64tab", .agg (tzTab.map fun i => .lit (.int .u8 i)))] ((World.doorLaid Tryd.prog 400 os).forCall (fun _ _ => 0) ⟨#[], args, []⟩).memory :=
  laidMetH_of_parts3 (fuel := 8) (laidMet_of_run' 8 (by kernel_rfl) (by kernel_rfl)) (by kernel_rfl) (by kernel_rfl)
end Go.AM

