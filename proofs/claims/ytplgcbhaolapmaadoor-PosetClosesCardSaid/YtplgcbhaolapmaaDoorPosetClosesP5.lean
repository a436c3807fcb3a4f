/- Lemmas and contracts, part 5: an abstract machine over the model, and the functions that the statement reaches. -/
import Derived.Test.YtplgcbhaolapmaaDoorPosetClosesP4
import Derived.Carry
import Derived.RowKit
import Derived.OpenShut
set_option linter.unusedVariables false
set_option linter.unusedSimpArgs false
namespace Go.Proofs.P
open Go.AM Go
set_option maxRecDepth 100000
set_option maxHeartbeats 2000000
theorem wrap64 {i : Int} (h0 : 0 ≤ i) : IntKind.u64.wrap (i.tmod 64) = i.tmod 64 := by
  have : 0 ≤ i.tmod 64 ∧ i.tmod 64 < 64 := by rw [Int.tmod_eq_emod_of_nonneg h0]; omega
  simp [IntKind.wrap, IntKind.signed, IntKind.bits]; omega
theorem rbit_r (N : Int) (W : List Int) (i : Int) (hW : okW W) (h0 : 0 ≤ i) (h1 : i.tdiv 64 < W.length) (hl : W.length ≤ 9223372036854775807) : Reads Tryd.prog 60 false [.agg [.int .i64 N, .rsl 1 (words W)], .int .i64 i] (.bool (hasW W i)) := by
  have hd := div64_rng (i := i) (n := i + 1) h0 (by omega)
  have hgw := words_getD (l := W) (i := (i.tdiv 64).toNat) (by omega)
  have hb := bit_hasW hW h0
  have hwr := wrap64 h0
  refine Reads.body (rs := [.tmp 4]) Tryd.func60 rfl Tryd.ntmps60 rfl (by simp) ?_
  generalize hQr : retQ _ _ _ = Qr
  refine AW.seq fun K1 hK1 => ?_
  -- region 0
  refine AW.regionK 0 (fun _ => none) [1, 2] [2] ?_
  simp only [go_sem, reduceIte, reduceCtorEq, Nat.reduceAdd, Nat.reduceMul, Nat.reduceEqDiff, Nat.reduceLT, Nat.reduceLeDiff, Nat.reduceSub, Nat.reducePow, Nat.reduceBEq, Int.reduceToNat, List.reduceReplicate]
  repeat with_reducible refine cj ?_ ?_
  all_goals try first | omega
  refine hK1 _ _ _ ?_; clear hK1
  refine AW.seq fun K2 hK2 => ?_
  -- region 1
  refine AW.regionK 0 (fun _ => none) [4] [] ?_
  simp only [go_sem, reduceIte, reduceCtorEq, Nat.reduceAdd, Nat.reduceMul, Nat.reduceEqDiff, Nat.reduceLT, Nat.reduceLeDiff, Nat.reduceSub, Nat.reducePow, Nat.reduceBEq, Int.reduceToNat, List.reduceReplicate, hgw, hwr]
  repeat with_reducible refine cj ?_ ?_
  all_goals try first | omega
  refine hK2 _ _ _ ?_; clear hK2
  refine AW.ret ?_
  rw [← hQr]
  simp only [go_sem, reduceIte, reduceCtorEq, Nat.reduceAdd, Nat.reduceMul, Nat.reduceEqDiff, Nat.reduceLT, Nat.reduceLeDiff, Nat.reduceSub, Nat.reducePow, Nat.reduceBEq, Int.reduceToNat, List.reduceReplicate]
  exact Wk.of_eq (by rw [hb])
theorem rvalid2_r (N : Int) (W : List Int) (hW : okW W) (hl : W.length ≤ 9223372036854775807) : Reads Tryd.prog 54 false [.agg [.int .i64 N, .rsl 1 (words W)]] (.bool (validS N W)) := by
  have hwe := wordsN_ref N
  have hbi := fun i h0 h1 => rbit_r N W i hW h0 h1 hl
  have hnv : ¬ (0 ≤ N ∧ N ≤ 512 ∧ (W.length : Int) = wordsN N) → validS N W = false := fun h => by
    cases e : validS N W
    · rfl
    · exact absurd (validS_sz e) h
  refine Reads.body (rs := [.tmp 2]) Tryd.func54 rfl Tryd.ntmps54 rfl (by simp) ?_
  generalize hQr : retQ _ _ _ = Qr
  refine AW.seq fun K1 hK1 => ?_
  -- region 0
  refine AW.regionK 0 (fun _ => none) [1] [1] ?_
  simp only [go_sem, reduceIte, reduceCtorEq, Nat.reduceAdd, Nat.reduceMul, Nat.reduceEqDiff, Nat.reduceLT, Nat.reduceLeDiff, Nat.reduceSub, Nat.reducePow, Nat.reduceBEq, Int.reduceToNat, List.reduceReplicate, hwe]
  repeat with_reducible refine cj ?_ ?_
  all_goals try first | omega
  refine hK1 _ _ _ ?_; clear hK1
  refine AW.seq fun K2 hK2 => ?_
  refine AW.seq fun K3 hK3 => ?_
  -- region 1
  refine AW.regionK 0 (fun _ => none) [1, 21] [1] ?_
  simp only [go_sem, reduceIte, reduceCtorEq, Nat.reduceAdd, Nat.reduceMul, Nat.reduceEqDiff, Nat.reduceLT, Nat.reduceLeDiff, Nat.reduceSub, Nat.reducePow, Nat.reduceBEq, Int.reduceToNat, List.reduceReplicate, hwe]
  repeat with_reducible refine cj ?_ ?_
  all_goals try first | ((intro hh; have hc := hh; simp only [Bool.or_eq_false_iff, decide_eq_false_iff_not] at hc; have hwn2 := wordsN_rng (n := N) (by omega); (repeat' apply And.intro) <;> first | exact hh | omega | decide)) | (intros; (repeat' apply And.intro) <;> first | assumption | ((intro hh; have hc := hh; simp only [Bool.or_eq_false_iff, decide_eq_false_iff_not] at hc; have hwn2 := wordsN_rng (n := N) (by omega); (repeat' apply And.intro) <;> first | exact hh | omega | decide))) | omega | (intro hgd; exact absurd hgd (by decide)) | rfl | (simp only [go_sem, reduceIte, reduceCtorEq, Nat.reduceAdd, Nat.reduceMul, Nat.reduceEqDiff, Nat.reduceLT, Nat.reduceLeDiff, Nat.reduceSub, Nat.reducePow, Nat.reduceBEq, Int.reduceToNat, List.reduceReplicate, hwe]; done) | (intro _hgd; simp_all [go_sem]; done)
  refine hK3 _ _ _ ?_; clear hK3
  -- cond 1
  refine AW.cond rfl (by simp only [go_sem, reduceIte, reduceCtorEq, Nat.reduceAdd, Nat.reduceMul, Nat.reduceEqDiff, Nat.reduceLT, Nat.reduceLeDiff, Nat.reduceSub, Nat.reducePow, Nat.reduceBEq, Int.reduceToNat, List.reduceReplicate]) ?_ ?_
  · intro hb
    try simp only [hB, decide_eq_true_eq, decide_eq_false_iff_not] at hb
    refine AW.seq fun K4 hK4 => ?_
    -- region 2
    refine AW.regionK 0 (fun _ => none) [2] [] ?_
    simp only [go_sem, reduceIte, reduceCtorEq, Nat.reduceAdd, Nat.reduceMul, Nat.reduceEqDiff, Nat.reduceLT, Nat.reduceLeDiff, Nat.reduceSub, Nat.reducePow, Nat.reduceBEq, Int.reduceToNat, List.reduceReplicate, hwe]
    repeat with_reducible refine cj ?_ ?_
    all_goals try first | omega
    refine hK4 _ _ _ ?_; clear hK4
    refine AW.ret ?_
    rw [← hQr]
    simp only [go_sem, reduceIte, reduceCtorEq, Nat.reduceAdd, Nat.reduceMul, Nat.reduceEqDiff, Nat.reduceLT, Nat.reduceLeDiff, Nat.reduceSub, Nat.reducePow, Nat.reduceBEq, Int.reduceToNat, List.reduceReplicate, hwe]
    exact Wk.of_eq (by rw [hnv (by rintro ⟨a, b, c⟩; rcases hb with (hb | hb) | hb; omega; omega; exact hb c)])
  · intro hb
    try simp only [hB, decide_eq_true_eq, decide_eq_false_iff_not] at hb
    have hsz : 0 ≤ N ∧ N ≤ 512 ∧ (W.length : Int) = wordsN N := by refine ⟨?_, ?_, ?_⟩ <;> (obtain ⟨⟨a, b⟩, c⟩ := hb; omega)
    have hwn := wordsN_rng hsz.1
    refine AW.skip ?_
    refine hK2 _ _ _ ?_; clear hK2
    refine AW.seq fun K5 hK5 => ?_
    refine AW.seq fun K6 hK6 => ?_
    -- region 3
    refine AW.regionK 0 (fun _ => none) [1, 3] [1] ?_
    simp only [go_sem, reduceIte, reduceCtorEq, Nat.reduceAdd, Nat.reduceMul, Nat.reduceEqDiff, Nat.reduceLT, Nat.reduceLeDiff, Nat.reduceSub, Nat.reducePow, Nat.reduceBEq, Int.reduceToNat, List.reduceReplicate, hwe]
    repeat with_reducible refine cj ?_ ?_
    all_goals try first | omega
    refine hK6 _ _ _ ?_; clear hK6
    refine AW.block ?_
    -- loop 1
    refine AW.loopE (fun mm ee ss kk => ∃ (i : Nat) (g1 v1 : Nat), 64 * W.length - i = mm ∧ ee = [(1, .ptr ⟨1, g1, none⟩ 0 0), (3, .int .i64 (i : Nat))] ∧ ss = [(1, some ⟨g1, v1, 2, [[.int .i64 N, .rsl 1 (words W)]]⟩)] ∧ (N ≤ i ∧ i ≤ 1000000 ∧ ∀ q : Nat, N ≤ q → q < i → q < 64 * W.length → hasW W q = false)) ?_ ?_
    · refine ⟨_, N.toNat, ?_, ?_, rfl, ?henv, ?hstore, ?hst⟩
      case henv =>
        repeat' (first | rfl | refine env_cons ?_ ?_ | refine st_cons ?_ ?_ ?_ ?_ | refine int_eq ?_ | refine bool_eq ?_ | refine rsl_eq ?_ | refine osl_eq ?_ | refine sl_eq ?_ ?_ ?_ | refine ptr_eq ?_ ?_ ?_ | refine agg_eq ?_ | refine es_cons ?_ ?_ | refine row_cons ?_ ?_)
        all_goals (first | (simp; done) | omega | (simp; omega))
      case hstore =>
        repeat' (first | rfl | refine env_cons ?_ ?_ | refine st_cons ?_ ?_ ?_ ?_ | refine int_eq ?_ | refine bool_eq ?_ | refine rsl_eq ?_ | refine osl_eq ?_ | refine sl_eq ?_ ?_ ?_ | refine ptr_eq ?_ ?_ ?_ | refine agg_eq ?_ | refine es_cons ?_ ?_ | refine row_cons ?_ ?_)
        all_goals (first | (simp; done) | omega | (simp; omega))
      case hst =>
        exact ⟨by omega, by omega, fun q h1 h2 => by omega⟩
    rintro mm ee ss kk ⟨i, g1, v1, rfl, rfl, rfl, hI⟩
    generalize hQl1 : thenQ _ _ = Ql1
    obtain ⟨hNi, hi6, hall⟩ := hI
    refine AW.seq fun K7 hK7 => ?_
    refine AW.seq fun K8 hK8 => ?_
    -- region 4
    refine AW.regionK 0 (fun _ => none) [1, 3, 29] [1] ?_
    simp only [go_sem, reduceIte, reduceCtorEq, Nat.reduceAdd, Nat.reduceMul, Nat.reduceEqDiff, Nat.reduceLT, Nat.reduceLeDiff, Nat.reduceSub, Nat.reducePow, Nat.reduceBEq, Int.reduceToNat, List.reduceReplicate, hwe]
    repeat with_reducible refine cj ?_ ?_
    all_goals try first | omega
    refine hK8 _ _ _ ?_; clear hK8
    -- cond 2
    refine AW.cond rfl (by simp only [go_sem, reduceIte, reduceCtorEq, Nat.reduceAdd, Nat.reduceMul, Nat.reduceEqDiff, Nat.reduceLT, Nat.reduceLeDiff, Nat.reduceSub, Nat.reducePow, Nat.reduceBEq, Int.reduceToNat, List.reduceReplicate]) ?_ ?_
    · intro hb
      try simp only [hB, decide_eq_true_eq, decide_eq_false_iff_not] at hb
      have hbr := hbi (i : Nat) (by omega) (by rw [Int.tdiv_eq_ediv_of_nonneg (by omega)]; omega)
      refine AW.skip ?_
      refine hK7 _ _ _ ?_; clear hK7
      refine AW.seq fun K9 hK9 => ?_
      refine AW.block ?_
      refine AW.seq fun K10 hK10 => ?_
      -- region 6
      refine AW.regionK 0 (fun ii => if ii = 2 then some (.reads false (.bool (hasW W (i : Nat)))) else none) [1, 3, 34] [1] ?_
      simp only [go_sem, reduceIte, reduceCtorEq, Nat.reduceAdd, Nat.reduceMul, Nat.reduceEqDiff, Nat.reduceLT, Nat.reduceLeDiff, Nat.reduceSub, Nat.reducePow, Nat.reduceBEq, Int.reduceToNat, List.reduceReplicate, hwe]
      repeat with_reducible refine cj ?_ ?_
      all_goals try first | (exact hbr) | omega | exact ent (by kernel_rfl)
      refine hK10 _ _ _ ?_; clear hK10
      -- cond 3
      refine AW.cond rfl (by simp only [go_sem, reduceIte, reduceCtorEq, Nat.reduceAdd, Nat.reduceMul, Nat.reduceEqDiff, Nat.reduceLT, Nat.reduceLeDiff, Nat.reduceSub, Nat.reducePow, Nat.reduceBEq, Int.reduceToNat, List.reduceReplicate]) ?_ ?_
      · intro hb
        try simp only [hB, decide_eq_true_eq, decide_eq_false_iff_not] at hb
        refine AW.seq fun K11 hK11 => ?_
        -- region 7
        refine AW.regionK 0 (fun _ => none) [2] [] ?_
        simp only [go_sem, reduceIte, reduceCtorEq, Nat.reduceAdd, Nat.reduceMul, Nat.reduceEqDiff, Nat.reduceLT, Nat.reduceLeDiff, Nat.reduceSub, Nat.reducePow, Nat.reduceBEq, Int.reduceToNat, List.reduceReplicate, hwe]
        repeat with_reducible refine cj ?_ ?_
        all_goals try first | omega
        refine hK11 _ _ _ ?_; clear hK11
        refine AW.ret ?_
        rw [← hQl1]
        rw [← hQr]
        simp only [go_sem, reduceIte, reduceCtorEq, Nat.reduceAdd, Nat.reduceMul, Nat.reduceEqDiff, Nat.reduceLT, Nat.reduceLeDiff, Nat.reduceSub, Nat.reducePow, Nat.reduceBEq, Int.reduceToNat, List.reduceReplicate, hwe]
        exact Wk.of_eq (by cases e : validS N W; rfl; rw [validS_bit hW e hNi (by omega)] at hb; cases hb)
      · intro hb
        try simp only [hB, decide_eq_true_eq, decide_eq_false_iff_not] at hb
        refine AW.skip ?_
        refine hK9 _ _ _ ?_; clear hK9
        -- region 5
        refine AW.regionK 0 (fun _ => none) [1, 3] [1] ?_
        simp only [go_sem, reduceIte, reduceCtorEq, Nat.reduceAdd, Nat.reduceMul, Nat.reduceEqDiff, Nat.reduceLT, Nat.reduceLeDiff, Nat.reduceSub, Nat.reducePow, Nat.reduceBEq, Int.reduceToNat, List.reduceReplicate, hwe]
        repeat with_reducible refine cj ?_ ?_
        all_goals try first | omega
        rw [← hQl1]
        change Exists _
        refine ⟨_, ?hm, i + 1, ?_, ?_, rfl, ?henv, ?hstore, ?hst⟩
        case henv =>
          repeat' (first | rfl | refine env_cons ?_ ?_ | refine st_cons ?_ ?_ ?_ ?_ | refine int_eq ?_ | refine bool_eq ?_ | refine rsl_eq ?_ | refine osl_eq ?_ | refine sl_eq ?_ ?_ ?_ | refine ptr_eq ?_ ?_ ?_ | refine agg_eq ?_ | refine es_cons ?_ ?_ | refine row_cons ?_ ?_)
          all_goals (first | (simp; done) | omega | (simp; omega))
        case hstore =>
          repeat' (first | rfl | refine env_cons ?_ ?_ | refine st_cons ?_ ?_ ?_ ?_ | refine int_eq ?_ | refine bool_eq ?_ | refine rsl_eq ?_ | refine osl_eq ?_ | refine sl_eq ?_ ?_ ?_ | refine ptr_eq ?_ ?_ ?_ | refine agg_eq ?_ | refine es_cons ?_ ?_ | refine row_cons ?_ ?_)
          all_goals (first | (simp; done) | omega | (simp; omega))
        case hst =>
          refine ⟨by omega, by omega, fun q h1 h2 h3 => ?_⟩
          by_cases e : q = i
          · rw [e]; exact hb
          · exact hall q h1 (by omega) h3
        case hm => omega
    · intro hb
      try simp only [hB, decide_eq_true_eq, decide_eq_false_iff_not] at hb
      refine AW.keep [] [] ?_
      try simp only [go_sem, reduceIte, reduceCtorEq, Nat.reduceAdd, Nat.reduceMul, Nat.reduceEqDiff, Nat.reduceLT, Nat.reduceLeDiff, Nat.reduceSub, Nat.reducePow, Nat.reduceBEq, Int.reduceToNat, List.reduceReplicate]
      refine AW.exit ?_
      rw [← hQl1]
      refine hK5 _ _ _ ?_; clear hK5
      refine AW.seq fun K12 hK12 => ?_
      -- region 8
      refine AW.regionK 0 (fun _ => none) [2] [] ?_
      simp only [go_sem, reduceIte, reduceCtorEq, Nat.reduceAdd, Nat.reduceMul, Nat.reduceEqDiff, Nat.reduceLT, Nat.reduceLeDiff, Nat.reduceSub, Nat.reducePow, Nat.reduceBEq, Int.reduceToNat, List.reduceReplicate, hwe]
      repeat with_reducible refine cj ?_ ?_
      all_goals try first | omega
      refine hK12 _ _ _ ?_; clear hK12
      refine AW.ret ?_
      rw [← hQr]
      simp only [go_sem, reduceIte, reduceCtorEq, Nat.reduceAdd, Nat.reduceMul, Nat.reduceEqDiff, Nat.reduceLT, Nat.reduceLeDiff, Nat.reduceSub, Nat.reducePow, Nat.reduceBEq, Int.reduceToNat, List.reduceReplicate, hwe]
      exact Wk.of_eq (by rw [validS_bits hW hsz.1 hsz.2.1 hsz.2.2 fun q h1 h2 => hall q h1 (by omega) h2])
theorem rvrow_r (b : List Bool) (hb : b.length ≤ 512) : Reads Tryd.prog 54 false [.agg (rowB b)] (.bool true) := by
  have h := rvalid2_r b.length (setW b b.length) (setW_ok b) (by have := setB_len hb; omega)
  rw [validS_setW hb] at h
  exact h
theorem rbrow_r (b : List Bool) (hb : b.length ≤ 512) (i : Nat) (hi : i < b.length) : Reads Tryd.prog 60 false [.agg (rowB b), .int .i64 (i : Nat)] (.bool (b.getD i false)) := by
  have hd := div64_rng (i := (i : Int)) (n := b.length) (by omega) (by omega)
  have h := rbit_r b.length (setW b b.length) (i : Nat) (setW_ok b) (by omega) (by rw [setW_len']; have := wordsN_rng (n := (b.length : Int)) (by omega); omega) (by have := setB_len hb; omega)
  rw [hasW_row hi] at h
  exact h
theorem rcomp_r (a b : List Bool) (ha : a.length ≤ 512) (hl : b.length = a.length) : Reads Tryd.prog 59 false [.agg (rowB a), .agg (rowB b)] (.bool true) := by
  have h1 := rvrow_r a ha
  have h2 := rvrow_r b (by omega)
  unfold rowB at *
  refine Reads.body (rs := [.tmp 4]) Tryd.func59 rfl Tryd.ntmps59 rfl (by simp) ?_
  generalize hQr : retQ _ _ _ = Qr
  refine AW.seq fun K1 hK1 => ?_
  -- region 0
  refine AW.regionK 0 (fun _ => none) [2, 3] [2, 3] ?_
  simp only [go_sem, reduceIte, reduceCtorEq, Nat.reduceAdd, Nat.reduceMul, Nat.reduceEqDiff, Nat.reduceLT, Nat.reduceLeDiff, Nat.reduceSub, Nat.reducePow, Nat.reduceBEq, Int.reduceToNat, List.reduceReplicate]
  repeat with_reducible refine cj ?_ ?_
  all_goals try first | omega
  refine hK1 _ _ _ ?_; clear hK1
  refine AW.seq fun K2 hK2 => ?_
  -- region 1
  refine AW.regionK 0 (fun ii => if ii = 1 then some (.reads false (.bool true)) else if ii = 4 then some (.reads false (.bool true)) else none) [4] [] ?_
  simp only [go_sem, reduceIte, reduceCtorEq, Nat.reduceAdd, Nat.reduceMul, Nat.reduceEqDiff, Nat.reduceLT, Nat.reduceLeDiff, Nat.reduceSub, Nat.reducePow, Nat.reduceBEq, Int.reduceToNat, List.reduceReplicate]
  repeat with_reducible refine cj ?_ ?_
  all_goals try first | (first | exact h1 | (intro hh; exact ⟨hh, h2⟩)) | (intros; (repeat' apply And.intro) <;> first | assumption | (first | exact h1 | (intro hh; exact ⟨hh, h2⟩))) | omega | exact ent (by kernel_rfl) | (intro hgd; exact absurd hgd (by decide)) | rfl | (simp only [go_sem, reduceIte, reduceCtorEq, Nat.reduceAdd, Nat.reduceMul, Nat.reduceEqDiff, Nat.reduceLT, Nat.reduceLeDiff, Nat.reduceSub, Nat.reducePow, Nat.reduceBEq, Int.reduceToNat, List.reduceReplicate]; done) | (intro _hgd; simp_all [go_sem]; done)
  refine hK2 _ _ _ ?_; clear hK2
  refine AW.ret ?_
  rw [← hQr]
  simp only [go_sem, reduceIte, reduceCtorEq, Nat.reduceAdd, Nat.reduceMul, Nat.reduceEqDiff, Nat.reduceLT, Nat.reduceLeDiff, Nat.reduceSub, Nat.reducePow, Nat.reduceBEq, Int.reduceToNat, List.reduceReplicate]
  exact Wk.of_eq (by simp [hl])
theorem rsub_r (a b : List Bool) (ha : a.length ≤ 512) (hl : b.length = a.length) : Reads Tryd.prog 24 false [.agg (rowB a), .agg (rowB b)] (.bool (subB a b)) := by
  have hc := rcomp_r a b ha hl
  have hba := rbrow_r a ha
  have hbb := rbrow_r b (by omega)
  have hsd : subB a b = (List.range a.length).all fun i => !a.getD i false || b.getD i false := rfl
  unfold rowB at *
  refine Reads.body (rs := [.tmp 4]) Tryd.func24 rfl Tryd.ntmps24 rfl (by simp) ?_
  generalize hQr : retQ _ _ _ = Qr
  refine AW.seq fun K1 hK1 => ?_
  -- region 0
  refine AW.regionK 0 (fun _ => none) [2, 3] [2, 3] ?_
  simp only [go_sem, reduceIte, reduceCtorEq, Nat.reduceAdd, Nat.reduceMul, Nat.reduceEqDiff, Nat.reduceLT, Nat.reduceLeDiff, Nat.reduceSub, Nat.reducePow, Nat.reduceBEq, Int.reduceToNat, List.reduceReplicate]
  repeat with_reducible refine cj ?_ ?_
  all_goals try first | omega
  refine hK1 _ _ _ ?_; clear hK1
  refine AW.seq fun K2 hK2 => ?_
  refine AW.seq fun K3 hK3 => ?_
  -- region 1
  refine AW.regionK 0 (fun ii => if ii = 2 then some (.reads false (.bool true)) else none) [2, 3, 9] [2, 3] ?_
  simp only [go_sem, reduceIte, reduceCtorEq, Nat.reduceAdd, Nat.reduceMul, Nat.reduceEqDiff, Nat.reduceLT, Nat.reduceLeDiff, Nat.reduceSub, Nat.reducePow, Nat.reduceBEq, Int.reduceToNat, List.reduceReplicate]
  repeat with_reducible refine cj ?_ ?_
  all_goals try first | (exact hc) | omega | exact ent (by kernel_rfl)
  refine hK3 _ _ _ ?_; clear hK3
  -- cond 1
  refine AW.cond rfl (by simp only [go_sem, reduceIte, reduceCtorEq, Nat.reduceAdd, Nat.reduceMul, Nat.reduceEqDiff, Nat.reduceLT, Nat.reduceLeDiff, Nat.reduceSub, Nat.reducePow, Nat.reduceBEq, Int.reduceToNat, List.reduceReplicate]) ?_ ?_
  · intro hb
    try simp only [hB, decide_eq_true_eq, decide_eq_false_iff_not] at hb
    simp at hb
  · intro hb
    try simp only [hB, decide_eq_true_eq, decide_eq_false_iff_not] at hb
    refine AW.skip ?_
    refine hK2 _ _ _ ?_; clear hK2
    refine AW.seq fun K4 hK4 => ?_
    refine AW.seq fun K5 hK5 => ?_
    -- region 3
    refine AW.regionK 0 (fun _ => none) [2, 3, 5] [2, 3] ?_
    simp only [go_sem, reduceIte, reduceCtorEq, Nat.reduceAdd, Nat.reduceMul, Nat.reduceEqDiff, Nat.reduceLT, Nat.reduceLeDiff, Nat.reduceSub, Nat.reducePow, Nat.reduceBEq, Int.reduceToNat, List.reduceReplicate]
    repeat with_reducible refine cj ?_ ?_
    all_goals try first | omega
    refine hK5 _ _ _ ?_; clear hK5
    refine AW.block ?_
    -- loop 1
    refine AW.loopE (fun mm ee ss kk => ∃ (i g2 v2 g3 v3 : Nat), a.length - i = mm ∧ ee = [(2, .ptr ⟨2, g2, none⟩ 0 0), (3, .ptr ⟨3, g3, none⟩ 0 0), (5, .int .i64 (i : Nat))] ∧ ss = [(2, some ⟨g2, v2, 2, [[.int .i64 a.length, .rsl 1 (words (setW a a.length))]]⟩), (3, some ⟨g3, v3, 2, [[.int .i64 b.length, .rsl 1 (words (setW b b.length))]]⟩)] ∧ (i ≤ a.length ∧ ((List.range i).all fun i => !a.getD i false || b.getD i false) = true)) ?_ ?_
    · refine ⟨_, 0, ?_, ?_, ?_, ?_, rfl, ?henv, ?hstore, ?hst⟩
      case henv =>
        repeat' (first | rfl | refine env_cons ?_ ?_ | refine st_cons ?_ ?_ ?_ ?_ | refine int_eq ?_ | refine bool_eq ?_ | refine rsl_eq ?_ | refine osl_eq ?_ | refine sl_eq ?_ ?_ ?_ | refine ptr_eq ?_ ?_ ?_ | refine agg_eq ?_ | refine es_cons ?_ ?_ | refine row_cons ?_ ?_)
        all_goals (first | (simp; done) | omega | (simp; omega))
      case hstore =>
        repeat' (first | rfl | refine env_cons ?_ ?_ | refine st_cons ?_ ?_ ?_ ?_ | refine int_eq ?_ | refine bool_eq ?_ | refine rsl_eq ?_ | refine osl_eq ?_ | refine sl_eq ?_ ?_ ?_ | refine ptr_eq ?_ ?_ ?_ | refine agg_eq ?_ | refine es_cons ?_ ?_ | refine row_cons ?_ ?_)
        all_goals (first | (simp; done) | omega | (simp; omega))
      case hst =>
        exact ⟨Nat.zero_le _, rfl⟩
    rintro mm ee ss kk ⟨i, g2, v2, g3, v3, rfl, rfl, rfl, hI⟩
    generalize hQl1 : thenQ _ _ = Ql1
    obtain ⟨hi, hall⟩ := hI
    refine AW.seq fun K6 hK6 => ?_
    refine AW.seq fun K7 hK7 => ?_
    -- region 4
    refine AW.regionK 0 (fun _ => none) [2, 3, 5, 13] [2, 3] ?_
    simp only [go_sem, reduceIte, reduceCtorEq, Nat.reduceAdd, Nat.reduceMul, Nat.reduceEqDiff, Nat.reduceLT, Nat.reduceLeDiff, Nat.reduceSub, Nat.reducePow, Nat.reduceBEq, Int.reduceToNat, List.reduceReplicate]
    repeat with_reducible refine cj ?_ ?_
    all_goals try first | omega
    refine hK7 _ _ _ ?_; clear hK7
    -- cond 2
    refine AW.cond rfl (by simp only [go_sem, reduceIte, reduceCtorEq, Nat.reduceAdd, Nat.reduceMul, Nat.reduceEqDiff, Nat.reduceLT, Nat.reduceLeDiff, Nat.reduceSub, Nat.reducePow, Nat.reduceBEq, Int.reduceToNat, List.reduceReplicate]) ?_ ?_
    · intro hb
      try simp only [hB, decide_eq_true_eq, decide_eq_false_iff_not] at hb
      have h1 := hba i (by omega)
      have h2 := hbb i (by omega)
      have hrs := range_all_succ (p := fun i => !a.getD i false || b.getD i false) i
      rw [hall, Bool.true_and] at hrs
      have hrf := range_all_false (p := fun i => !a.getD i false || b.getD i false) (j := i) (m := a.length) (by omega)
      refine AW.skip ?_
      refine hK6 _ _ _ ?_; clear hK6
      refine AW.seq fun K8 hK8 => ?_
      refine AW.block ?_
      refine AW.seq fun K9 hK9 => ?_
      -- region 6
      refine AW.regionK 0 (fun ii => if ii = 2 then some (.reads false (.bool (a.getD i false))) else if ii = 6 then some (.reads false (.bool (b.getD i false))) else none) [2, 3, 5, 24] [2, 3] ?_
      simp only [go_sem, reduceIte, reduceCtorEq, Nat.reduceAdd, Nat.reduceMul, Nat.reduceEqDiff, Nat.reduceLT, Nat.reduceLeDiff, Nat.reduceSub, Nat.reducePow, Nat.reduceBEq, Int.reduceToNat, List.reduceReplicate]
      repeat with_reducible refine cj ?_ ?_
      all_goals try first | (first | exact h1 | (intro hh; exact ⟨hh, h2⟩)) | (intros; (repeat' apply And.intro) <;> first | assumption | (first | exact h1 | (intro hh; exact ⟨hh, h2⟩))) | omega | exact ent (by kernel_rfl) | (intro hgd; exact absurd hgd (by decide)) | rfl | (simp only [go_sem, reduceIte, reduceCtorEq, Nat.reduceAdd, Nat.reduceMul, Nat.reduceEqDiff, Nat.reduceLT, Nat.reduceLeDiff, Nat.reduceSub, Nat.reducePow, Nat.reduceBEq, Int.reduceToNat, List.reduceReplicate]; done) | (intro _hgd; simp_all [go_sem]; done)
      refine hK9 _ _ _ ?_; clear hK9
      -- cond 3
      refine AW.cond rfl (by simp only [go_sem, reduceIte, reduceCtorEq, Nat.reduceAdd, Nat.reduceMul, Nat.reduceEqDiff, Nat.reduceLT, Nat.reduceLeDiff, Nat.reduceSub, Nat.reducePow, Nat.reduceBEq, Int.reduceToNat, List.reduceReplicate]) ?_ ?_
      · intro hb
        try simp only [hB, decide_eq_true_eq, decide_eq_false_iff_not] at hb
        refine AW.seq fun K10 hK10 => ?_
        -- region 7
        refine AW.regionK 0 (fun _ => none) [4] [] ?_
        simp only [go_sem, reduceIte, reduceCtorEq, Nat.reduceAdd, Nat.reduceMul, Nat.reduceEqDiff, Nat.reduceLT, Nat.reduceLeDiff, Nat.reduceSub, Nat.reducePow, Nat.reduceBEq, Int.reduceToNat, List.reduceReplicate]
        repeat with_reducible refine cj ?_ ?_
        all_goals try first | omega
        refine hK10 _ _ _ ?_; clear hK10
        refine AW.ret ?_
        rw [← hQl1]
        rw [← hQr]
        simp only [go_sem, reduceIte, reduceCtorEq, Nat.reduceAdd, Nat.reduceMul, Nat.reduceEqDiff, Nat.reduceLT, Nat.reduceLeDiff, Nat.reduceSub, Nat.reducePow, Nat.reduceBEq, Int.reduceToNat, List.reduceReplicate]
        exact Wk.of_eq (by rw [hsd, hrf (by rw [hb.1, hb.2]; rfl)])
      · intro hb
        try simp only [hB, decide_eq_true_eq, decide_eq_false_iff_not] at hb
        refine AW.skip ?_
        refine hK8 _ _ _ ?_; clear hK8
        -- region 5
        refine AW.regionK 0 (fun _ => none) [2, 3, 5] [2, 3] ?_
        simp only [go_sem, reduceIte, reduceCtorEq, Nat.reduceAdd, Nat.reduceMul, Nat.reduceEqDiff, Nat.reduceLT, Nat.reduceLeDiff, Nat.reduceSub, Nat.reducePow, Nat.reduceBEq, Int.reduceToNat, List.reduceReplicate]
        repeat with_reducible refine cj ?_ ?_
        all_goals try first | omega
        rw [← hQl1]
        change Exists _
        refine ⟨_, ?hm, i + 1, ?_, ?_, ?_, ?_, rfl, ?henv, ?hstore, ?hst⟩
        case henv =>
          repeat' (first | rfl | refine env_cons ?_ ?_ | refine st_cons ?_ ?_ ?_ ?_ | refine int_eq ?_ | refine bool_eq ?_ | refine rsl_eq ?_ | refine osl_eq ?_ | refine sl_eq ?_ ?_ ?_ | refine ptr_eq ?_ ?_ ?_ | refine agg_eq ?_ | refine es_cons ?_ ?_ | refine row_cons ?_ ?_)
          all_goals (first | (simp; done) | omega | (simp; omega))
        case hstore =>
          repeat' (first | rfl | refine env_cons ?_ ?_ | refine st_cons ?_ ?_ ?_ ?_ | refine int_eq ?_ | refine bool_eq ?_ | refine rsl_eq ?_ | refine osl_eq ?_ | refine sl_eq ?_ ?_ ?_ | refine ptr_eq ?_ ?_ ?_ | refine agg_eq ?_ | refine es_cons ?_ ?_ | refine row_cons ?_ ?_)
          all_goals (first | (simp; done) | omega | (simp; omega))
        case hst =>
          exact ⟨by omega, by rw [hrs]; rcases hb with hb | hb <;> rw [hb] <;> simp⟩
        case hm => omega
    · intro hb
      try simp only [hB, decide_eq_true_eq, decide_eq_false_iff_not] at hb
      refine AW.keep [] [] ?_
      try simp only [go_sem, reduceIte, reduceCtorEq, Nat.reduceAdd, Nat.reduceMul, Nat.reduceEqDiff, Nat.reduceLT, Nat.reduceLeDiff, Nat.reduceSub, Nat.reducePow, Nat.reduceBEq, Int.reduceToNat, List.reduceReplicate]
      refine AW.exit ?_
      rw [← hQl1]
      refine hK4 _ _ _ ?_; clear hK4
      refine AW.seq fun K11 hK11 => ?_
      -- region 8
      refine AW.regionK 0 (fun _ => none) [4] [] ?_
      simp only [go_sem, reduceIte, reduceCtorEq, Nat.reduceAdd, Nat.reduceMul, Nat.reduceEqDiff, Nat.reduceLT, Nat.reduceLeDiff, Nat.reduceSub, Nat.reducePow, Nat.reduceBEq, Int.reduceToNat, List.reduceReplicate]
      repeat with_reducible refine cj ?_ ?_
      all_goals try first | omega
      refine hK11 _ _ _ ?_; clear hK11
      refine AW.ret ?_
      rw [← hQr]
      simp only [go_sem, reduceIte, reduceCtorEq, Nat.reduceAdd, Nat.reduceMul, Nat.reduceEqDiff, Nat.reduceLT, Nat.reduceLeDiff, Nat.reduceSub, Nat.reducePow, Nat.reduceBEq, Int.reduceToNat, List.reduceReplicate]
      have hi2 : i = a.length := by omega
      subst hi2
      exact Wk.of_eq (by rw [hsd, hall])
theorem rsame_r (N : Int) (W : List Int) (hl : W.length ≤ 9223372036854775807) : Reads Tryd.prog 23 false [.agg [.int .i64 N, .rsl 1 (words W)], .agg [.int .i64 N, .rsl 1 (words W)]] (.bool true) := by
  refine Reads.body (rs := [.tmp 4]) Tryd.func23 rfl Tryd.ntmps23 rfl (by simp) ?_
  generalize hQr : retQ _ _ _ = Qr
  refine AW.seq fun K1 hK1 => ?_
  -- region 0
  refine AW.regionK 0 (fun _ => none) [2, 3] [2, 3] ?_
  simp only [go_sem, reduceIte, reduceCtorEq, Nat.reduceAdd, Nat.reduceMul, Nat.reduceEqDiff, Nat.reduceLT, Nat.reduceLeDiff, Nat.reduceSub, Nat.reducePow, Nat.reduceBEq, Int.reduceToNat, List.reduceReplicate]
  repeat with_reducible refine cj ?_ ?_
  all_goals try first | omega
  refine hK1 _ _ _ ?_; clear hK1
  refine AW.seq fun K2 hK2 => ?_
  refine AW.seq fun K3 hK3 => ?_
  -- region 1
  refine AW.regionK 0 (fun _ => none) [2, 3, 19] [2, 3] ?_
  simp only [go_sem, reduceIte, reduceCtorEq, Nat.reduceAdd, Nat.reduceMul, Nat.reduceEqDiff, Nat.reduceLT, Nat.reduceLeDiff, Nat.reduceSub, Nat.reducePow, Nat.reduceBEq, Int.reduceToNat, List.reduceReplicate]
  repeat with_reducible refine cj ?_ ?_
  all_goals try first | omega | (intros; (repeat' apply And.intro) <;> first | assumption | omega | decide) | (intro hgd; exact absurd hgd (by decide)) | rfl | (simp only [go_sem, reduceIte, reduceCtorEq, Nat.reduceAdd, Nat.reduceMul, Nat.reduceEqDiff, Nat.reduceLT, Nat.reduceLeDiff, Nat.reduceSub, Nat.reducePow, Nat.reduceBEq, Int.reduceToNat, List.reduceReplicate]; done) | (intro _hgd; simp_all [go_sem]; done)
  refine hK3 _ _ _ ?_; clear hK3
  -- cond 1
  refine AW.cond rfl (by simp only [go_sem, reduceIte, reduceCtorEq, Nat.reduceAdd, Nat.reduceMul, Nat.reduceEqDiff, Nat.reduceLT, Nat.reduceLeDiff, Nat.reduceSub, Nat.reducePow, Nat.reduceBEq, Int.reduceToNat, List.reduceReplicate]) ?_ ?_
  · intro hb
    try simp only [hB, decide_eq_true_eq, decide_eq_false_iff_not] at hb
    exfalso; simp at hb
  · intro hb
    try simp only [hB, decide_eq_true_eq, decide_eq_false_iff_not] at hb
    refine AW.skip ?_
    refine hK2 _ _ _ ?_; clear hK2
    refine AW.seq fun K4 hK4 => ?_
    refine AW.seq fun K5 hK5 => ?_
    -- region 3
    refine AW.regionK 0 (fun _ => none) [2, 3, 5] [2, 3] ?_
    simp only [go_sem, reduceIte, reduceCtorEq, Nat.reduceAdd, Nat.reduceMul, Nat.reduceEqDiff, Nat.reduceLT, Nat.reduceLeDiff, Nat.reduceSub, Nat.reducePow, Nat.reduceBEq, Int.reduceToNat, List.reduceReplicate]
    repeat with_reducible refine cj ?_ ?_
    all_goals try first | omega
    refine hK5 _ _ _ ?_; clear hK5
    refine AW.block ?_
    -- loop 1
    refine AW.loopE (fun mm ee ss kk => ∃ (i g2 v2 g3 v3 : Nat), W.length - i = mm ∧ ee = [(2, .ptr ⟨2, g2, none⟩ 0 0), (3, .ptr ⟨3, g3, none⟩ 0 0), (5, .int .i64 (i : Nat))] ∧ ss = [(2, some ⟨g2, v2, 2, [[.int .i64 N, .rsl 1 (words W)]]⟩), (3, some ⟨g3, v3, 2, [[.int .i64 N, .rsl 1 (words W)]]⟩)] ∧ (i ≤ W.length)) ?_ ?_
    · refine ⟨_, 0, ?_, ?_, ?_, ?_, rfl, ?henv, ?hstore, ?hst⟩
      case henv =>
        repeat' (first | rfl | refine env_cons ?_ ?_ | refine st_cons ?_ ?_ ?_ ?_ | refine int_eq ?_ | refine bool_eq ?_ | refine rsl_eq ?_ | refine osl_eq ?_ | refine sl_eq ?_ ?_ ?_ | refine ptr_eq ?_ ?_ ?_ | refine agg_eq ?_ | refine es_cons ?_ ?_ | refine row_cons ?_ ?_)
        all_goals (first | (simp; done) | omega | (simp; omega))
      case hstore =>
        repeat' (first | rfl | refine env_cons ?_ ?_ | refine st_cons ?_ ?_ ?_ ?_ | refine int_eq ?_ | refine bool_eq ?_ | refine rsl_eq ?_ | refine osl_eq ?_ | refine sl_eq ?_ ?_ ?_ | refine ptr_eq ?_ ?_ ?_ | refine agg_eq ?_ | refine es_cons ?_ ?_ | refine row_cons ?_ ?_)
        all_goals (first | (simp; done) | omega | (simp; omega))
      case hst =>
        first | trivial | omega | (simp; done) | (simp; omega)
    rintro mm ee ss kk ⟨i, g2, v2, g3, v3, rfl, rfl, rfl, hI⟩
    generalize hQl1 : thenQ _ _ = Ql1
    refine AW.seq fun K6 hK6 => ?_
    refine AW.seq fun K7 hK7 => ?_
    -- region 4
    refine AW.regionK 0 (fun _ => none) [2, 3, 5, 24] [2, 3] ?_
    simp only [go_sem, reduceIte, reduceCtorEq, Nat.reduceAdd, Nat.reduceMul, Nat.reduceEqDiff, Nat.reduceLT, Nat.reduceLeDiff, Nat.reduceSub, Nat.reducePow, Nat.reduceBEq, Int.reduceToNat, List.reduceReplicate]
    repeat with_reducible refine cj ?_ ?_
    all_goals try first | omega
    refine hK7 _ _ _ ?_; clear hK7
    -- cond 2
    refine AW.cond rfl (by simp only [go_sem, reduceIte, reduceCtorEq, Nat.reduceAdd, Nat.reduceMul, Nat.reduceEqDiff, Nat.reduceLT, Nat.reduceLeDiff, Nat.reduceSub, Nat.reducePow, Nat.reduceBEq, Int.reduceToNat, List.reduceReplicate]) ?_ ?_
    · intro hb
      try simp only [hB, decide_eq_true_eq, decide_eq_false_iff_not] at hb
      have hgw := words_getD (l := W) (i := i) (by omega)
      refine AW.skip ?_
      refine hK6 _ _ _ ?_; clear hK6
      refine AW.seq fun K8 hK8 => ?_
      refine AW.block ?_
      refine AW.seq fun K9 hK9 => ?_
      -- region 6
      refine AW.regionD mixed 0 (fun _ => none) [2, 3, 5, 37] [2, 3] ?_
      simp only [go_sem, reduceIte, reduceCtorEq, Nat.reduceAdd, Nat.reduceMul, Nat.reduceEqDiff, Nat.reduceLT, Nat.reduceLeDiff, Nat.reduceSub, Nat.reducePow, Nat.reduceBEq, Int.reduceToNat, List.reduceReplicate, hgw]
      repeat with_reducible refine cj ?_ ?_
      all_goals try first | omega | exact chk (by kernel_rfl)
      refine hK9 _ _ _ ?_; clear hK9
      -- cond 3
      refine AW.cond rfl (by simp only [go_sem, reduceIte, reduceCtorEq, Nat.reduceAdd, Nat.reduceMul, Nat.reduceEqDiff, Nat.reduceLT, Nat.reduceLeDiff, Nat.reduceSub, Nat.reducePow, Nat.reduceBEq, Int.reduceToNat, List.reduceReplicate]) ?_ ?_
      · intro hb
        try simp only [hB, decide_eq_true_eq, decide_eq_false_iff_not] at hb
        exfalso; simp at hb
      · intro hb
        try simp only [hB, decide_eq_true_eq, decide_eq_false_iff_not] at hb
        refine AW.skip ?_
        refine hK8 _ _ _ ?_; clear hK8
        -- region 5
        refine AW.regionK 0 (fun _ => none) [2, 3, 5] [2, 3] ?_
        simp only [go_sem, reduceIte, reduceCtorEq, Nat.reduceAdd, Nat.reduceMul, Nat.reduceEqDiff, Nat.reduceLT, Nat.reduceLeDiff, Nat.reduceSub, Nat.reducePow, Nat.reduceBEq, Int.reduceToNat, List.reduceReplicate]
        repeat with_reducible refine cj ?_ ?_
        all_goals try first | omega
        rw [← hQl1]
        change Exists _
        refine ⟨_, ?hm, i + 1, ?_, ?_, ?_, ?_, rfl, ?henv, ?hstore, ?hst⟩
        case henv =>
          repeat' (first | rfl | refine env_cons ?_ ?_ | refine st_cons ?_ ?_ ?_ ?_ | refine int_eq ?_ | refine bool_eq ?_ | refine rsl_eq ?_ | refine osl_eq ?_ | refine sl_eq ?_ ?_ ?_ | refine ptr_eq ?_ ?_ ?_ | refine agg_eq ?_ | refine es_cons ?_ ?_ | refine row_cons ?_ ?_)
          all_goals (first | (simp; done) | omega | (simp; omega))
        case hstore =>
          repeat' (first | rfl | refine env_cons ?_ ?_ | refine st_cons ?_ ?_ ?_ ?_ | refine int_eq ?_ | refine bool_eq ?_ | refine rsl_eq ?_ | refine osl_eq ?_ | refine sl_eq ?_ ?_ ?_ | refine ptr_eq ?_ ?_ ?_ | refine agg_eq ?_ | refine es_cons ?_ ?_ | refine row_cons ?_ ?_)
          all_goals (first | (simp; done) | omega | (simp; omega))
        case hst =>
          first | trivial | omega | (simp; done) | (simp; omega)
        case hm => omega
    · intro hb
      try simp only [hB, decide_eq_true_eq, decide_eq_false_iff_not] at hb
      refine AW.keep [] [] ?_
      try simp only [go_sem, reduceIte, reduceCtorEq, Nat.reduceAdd, Nat.reduceMul, Nat.reduceEqDiff, Nat.reduceLT, Nat.reduceLeDiff, Nat.reduceSub, Nat.reducePow, Nat.reduceBEq, Int.reduceToNat, List.reduceReplicate]
      refine AW.exit ?_
      rw [← hQl1]
      refine hK4 _ _ _ ?_; clear hK4
      refine AW.seq fun K10 hK10 => ?_
      -- region 8
      refine AW.regionK 0 (fun _ => none) [4] [] ?_
      simp only [go_sem, reduceIte, reduceCtorEq, Nat.reduceAdd, Nat.reduceMul, Nat.reduceEqDiff, Nat.reduceLT, Nat.reduceLeDiff, Nat.reduceSub, Nat.reducePow, Nat.reduceBEq, Int.reduceToNat, List.reduceReplicate]
      repeat with_reducible refine cj ?_ ?_
      all_goals try first | omega
      refine hK10 _ _ _ ?_; clear hK10
      refine AW.ret ?_
      rw [← hQr]
      simp only [go_sem, reduceIte, reduceCtorEq, Nat.reduceAdd, Nat.reduceMul, Nat.reduceEqDiff, Nat.reduceLT, Nat.reduceLeDiff, Nat.reduceSub, Nat.reducePow, Nat.reduceBEq, Int.reduceToNat, List.reduceReplicate]
      exact Wk.refl _
theorem rsameall_r (rs : List USet) (hl : longR rs) : Reads Tryd.prog 50 false [.rsl 2 (rs.map rowV), .rsl 2 (rs.map rowV)] (.bool true) := by
  have hsm := fun x hx => rsame_r (USet.N x) x.W (hl.2 x hx)
  have hl1 := hl.1
  refine Reads.body (rs := [.tmp 4]) Tryd.func50 rfl Tryd.ntmps50 rfl (by simp) ?_
  generalize hQr : retQ _ _ _ = Qr
  refine AW.seq fun K1 hK1 => ?_
  -- region 0
  refine AW.regionK 0 (fun _ => none) [0, 1] [] ?_
  simp only [go_sem, reduceIte, reduceCtorEq, Nat.reduceAdd, Nat.reduceMul, Nat.reduceEqDiff, Nat.reduceLT, Nat.reduceLeDiff, Nat.reduceSub, Nat.reducePow, Nat.reduceBEq, Int.reduceToNat, List.reduceReplicate]
  repeat with_reducible refine cj ?_ ?_
  all_goals try first | omega
  refine hK1 _ _ _ ?_; clear hK1
  refine AW.seq fun K2 hK2 => ?_
  refine AW.seq fun K3 hK3 => ?_
  -- region 1
  refine AW.regionK 0 (fun _ => none) [0, 1, 10] [] ?_
  simp only [go_sem, reduceIte, reduceCtorEq, Nat.reduceAdd, Nat.reduceMul, Nat.reduceEqDiff, Nat.reduceLT, Nat.reduceLeDiff, Nat.reduceSub, Nat.reducePow, Nat.reduceBEq, Int.reduceToNat, List.reduceReplicate]
  repeat with_reducible refine cj ?_ ?_
  all_goals try first | omega
  refine hK3 _ _ _ ?_; clear hK3
  -- cond 1
  refine AW.cond rfl (by simp only [go_sem, reduceIte, reduceCtorEq, Nat.reduceAdd, Nat.reduceMul, Nat.reduceEqDiff, Nat.reduceLT, Nat.reduceLeDiff, Nat.reduceSub, Nat.reducePow, Nat.reduceBEq, Int.reduceToNat, List.reduceReplicate]) ?_ ?_
  · intro hb
    try simp only [hB, decide_eq_true_eq, decide_eq_false_iff_not] at hb
    exfalso; simp at hb
  · intro hb
    try simp only [hB, decide_eq_true_eq, decide_eq_false_iff_not] at hb
    refine AW.skip ?_
    refine hK2 _ _ _ ?_; clear hK2
    refine AW.seq fun K4 hK4 => ?_
    refine AW.seq fun K5 hK5 => ?_
    -- region 3
    refine AW.regionK 0 (fun _ => none) [0, 1, 5] [] ?_
    simp only [go_sem, reduceIte, reduceCtorEq, Nat.reduceAdd, Nat.reduceMul, Nat.reduceEqDiff, Nat.reduceLT, Nat.reduceLeDiff, Nat.reduceSub, Nat.reducePow, Nat.reduceBEq, Int.reduceToNat, List.reduceReplicate]
    repeat with_reducible refine cj ?_ ?_
    all_goals try first | omega
    refine hK5 _ _ _ ?_; clear hK5
    refine AW.block ?_
    -- loop 1
    refine AW.loopE (fun mm ee ss kk => ∃ (i : Nat), rs.length - i = mm ∧ ee = [(0, .rsl 2 (rs.map rowV)), (1, .rsl 2 (rs.map rowV)), (5, .int .i64 (i : Nat))] ∧ ss = [] ∧ (i ≤ rs.length)) ?_ ?_
    · refine ⟨_, 0, rfl, ?henv, ?hstore, ?hst⟩
      case henv =>
        repeat' (first | rfl | refine env_cons ?_ ?_ | refine st_cons ?_ ?_ ?_ ?_ | refine int_eq ?_ | refine bool_eq ?_ | refine rsl_eq ?_ | refine osl_eq ?_ | refine sl_eq ?_ ?_ ?_ | refine ptr_eq ?_ ?_ ?_ | refine agg_eq ?_ | refine es_cons ?_ ?_ | refine row_cons ?_ ?_)
        all_goals (first | (simp; done) | omega | (simp; omega))
      case hstore =>
        repeat' (first | rfl | refine env_cons ?_ ?_ | refine st_cons ?_ ?_ ?_ ?_ | refine int_eq ?_ | refine bool_eq ?_ | refine rsl_eq ?_ | refine osl_eq ?_ | refine sl_eq ?_ ?_ ?_ | refine ptr_eq ?_ ?_ ?_ | refine agg_eq ?_ | refine es_cons ?_ ?_ | refine row_cons ?_ ?_)
        all_goals (first | (simp; done) | omega | (simp; omega))
      case hst =>
        first | trivial | omega | (simp; done) | (simp; omega)
    rintro mm ee ss kk ⟨i, rfl, rfl, rfl, hI⟩
    generalize hQl1 : thenQ _ _ = Ql1
    refine AW.seq fun K6 hK6 => ?_
    refine AW.seq fun K7 hK7 => ?_
    -- region 4
    refine AW.regionK 0 (fun _ => none) [0, 1, 5, 14] [] ?_
    simp only [go_sem, reduceIte, reduceCtorEq, Nat.reduceAdd, Nat.reduceMul, Nat.reduceEqDiff, Nat.reduceLT, Nat.reduceLeDiff, Nat.reduceSub, Nat.reducePow, Nat.reduceBEq, Int.reduceToNat, List.reduceReplicate]
    repeat with_reducible refine cj ?_ ?_
    all_goals try first | omega
    refine hK7 _ _ _ ?_; clear hK7
    -- cond 2
    refine AW.cond rfl (by simp only [go_sem, reduceIte, reduceCtorEq, Nat.reduceAdd, Nat.reduceMul, Nat.reduceEqDiff, Nat.reduceLT, Nat.reduceLeDiff, Nat.reduceSub, Nat.reducePow, Nat.reduceBEq, Int.reduceToNat, List.reduceReplicate]) ?_ ?_
    · intro hb
      try simp only [hB, decide_eq_true_eq, decide_eq_false_iff_not] at hb
      obtain ⟨x, hx⟩ := getI (l := rs) (j := i) (by omega)
      have hgx := getV (f := rowV) hx
      have hsx := hsm x (List.mem_of_getElem? hx)
      refine AW.skip ?_
      refine hK6 _ _ _ ?_; clear hK6
      refine AW.seq fun K8 hK8 => ?_
      refine AW.block ?_
      refine AW.seq fun K9 hK9 => ?_
      -- region 6
      refine AW.regionD mixed 0 (fun ii => if ii = 8 then some (.reads false (.bool true)) else none) [0, 1, 5, 26] [] ?_
      simp only [go_sem, reduceIte, reduceCtorEq, Nat.reduceAdd, Nat.reduceMul, Nat.reduceEqDiff, Nat.reduceLT, Nat.reduceLeDiff, Nat.reduceSub, Nat.reducePow, Nat.reduceBEq, Int.reduceToNat, List.reduceReplicate, hgx, rowV]
      repeat with_reducible refine cj ?_ ?_
      all_goals try first | (first | exact hsx | exact ⟨rfl, hsx⟩) | omega | exact chk (by kernel_rfl) | exact ent (by kernel_rfl)
      refine hK9 _ _ _ ?_; clear hK9
      -- cond 3
      refine AW.cond rfl (by simp only [go_sem, reduceIte, reduceCtorEq, Nat.reduceAdd, Nat.reduceMul, Nat.reduceEqDiff, Nat.reduceLT, Nat.reduceLeDiff, Nat.reduceSub, Nat.reducePow, Nat.reduceBEq, Int.reduceToNat, List.reduceReplicate]) ?_ ?_
      · intro hb
        try simp only [hB, decide_eq_true_eq, decide_eq_false_iff_not] at hb
        exfalso; simp at hb
      · intro hb
        try simp only [hB, decide_eq_true_eq, decide_eq_false_iff_not] at hb
        refine AW.skip ?_
        refine hK8 _ _ _ ?_; clear hK8
        -- region 5
        refine AW.regionK 0 (fun _ => none) [0, 1, 5] [] ?_
        simp only [go_sem, reduceIte, reduceCtorEq, Nat.reduceAdd, Nat.reduceMul, Nat.reduceEqDiff, Nat.reduceLT, Nat.reduceLeDiff, Nat.reduceSub, Nat.reducePow, Nat.reduceBEq, Int.reduceToNat, List.reduceReplicate]
        repeat with_reducible refine cj ?_ ?_
        all_goals try first | omega
        rw [← hQl1]
        change Exists _
        refine ⟨_, ?hm, i + 1, rfl, ?henv, ?hstore, ?hst⟩
        case henv =>
          repeat' (first | rfl | refine env_cons ?_ ?_ | refine st_cons ?_ ?_ ?_ ?_ | refine int_eq ?_ | refine bool_eq ?_ | refine rsl_eq ?_ | refine osl_eq ?_ | refine sl_eq ?_ ?_ ?_ | refine ptr_eq ?_ ?_ ?_ | refine agg_eq ?_ | refine es_cons ?_ ?_ | refine row_cons ?_ ?_)
          all_goals (first | (simp; done) | omega | (simp; omega))
        case hstore =>
          repeat' (first | rfl | refine env_cons ?_ ?_ | refine st_cons ?_ ?_ ?_ ?_ | refine int_eq ?_ | refine bool_eq ?_ | refine rsl_eq ?_ | refine osl_eq ?_ | refine sl_eq ?_ ?_ ?_ | refine ptr_eq ?_ ?_ ?_ | refine agg_eq ?_ | refine es_cons ?_ ?_ | refine row_cons ?_ ?_)
          all_goals (first | (simp; done) | omega | (simp; omega))
        case hst =>
          first | trivial | omega | (simp; done) | (simp; omega)
        case hm => omega
    · intro hb
      try simp only [hB, decide_eq_true_eq, decide_eq_false_iff_not] at hb
      refine AW.keep [] [] ?_
      try simp only [go_sem, reduceIte, reduceCtorEq, Nat.reduceAdd, Nat.reduceMul, Nat.reduceEqDiff, Nat.reduceLT, Nat.reduceLeDiff, Nat.reduceSub, Nat.reducePow, Nat.reduceBEq, Int.reduceToNat, List.reduceReplicate]
      refine AW.exit ?_
      rw [← hQl1]
      refine hK4 _ _ _ ?_; clear hK4
      refine AW.seq fun K10 hK10 => ?_
      -- region 8
      refine AW.regionK 0 (fun _ => none) [4] [] ?_
      simp only [go_sem, reduceIte, reduceCtorEq, Nat.reduceAdd, Nat.reduceMul, Nat.reduceEqDiff, Nat.reduceLT, Nat.reduceLeDiff, Nat.reduceSub, Nat.reducePow, Nat.reduceBEq, Int.reduceToNat, List.reduceReplicate]
      repeat with_reducible refine cj ?_ ?_
      all_goals try first | omega
      refine hK10 _ _ _ ?_; clear hK10
      refine AW.ret ?_
      rw [← hQr]
      simp only [go_sem, reduceIte, reduceCtorEq, Nat.reduceAdd, Nat.reduceMul, Nat.reduceEqDiff, Nat.reduceLT, Nat.reduceLeDiff, Nat.reduceSub, Nat.reducePow, Nat.reduceBEq, Int.reduceToNat, List.reduceReplicate]
      exact Wk.refl _
theorem rsamer_r (rs : List USet) (hl : longR rs) : Reads Tryd.prog 18 false [relV rs, relV rs] (.bool true) := by
  have h := rsameall_r rs hl
  unfold relV
  refine Reads.body (rs := [.tmp 4]) Tryd.func18 rfl Tryd.ntmps18 rfl (by simp) ?_
  generalize hQr : retQ _ _ _ = Qr
  refine AW.seq fun K1 hK1 => ?_
  -- region 0
  refine AW.regionK 0 (fun _ => none) [2, 3] [2, 3] ?_
  simp only [go_sem, reduceIte, reduceCtorEq, Nat.reduceAdd, Nat.reduceMul, Nat.reduceEqDiff, Nat.reduceLT, Nat.reduceLeDiff, Nat.reduceSub, Nat.reducePow, Nat.reduceBEq, Int.reduceToNat, List.reduceReplicate]
  repeat with_reducible refine cj ?_ ?_
  all_goals try first | omega
  refine hK1 _ _ _ ?_; clear hK1
  refine AW.seq fun K2 hK2 => ?_
  -- region 1
  refine AW.regionK 0 (fun ii => if ii = 4 then some (.reads false (.bool true)) else none) [4] [] ?_
  simp only [go_sem, reduceIte, reduceCtorEq, Nat.reduceAdd, Nat.reduceMul, Nat.reduceEqDiff, Nat.reduceLT, Nat.reduceLeDiff, Nat.reduceSub, Nat.reducePow, Nat.reduceBEq, Int.reduceToNat, List.reduceReplicate]
  repeat with_reducible refine cj ?_ ?_
  all_goals try first | (exact h) | omega | exact ent (by kernel_rfl)
  refine hK2 _ _ _ ?_; clear hK2
  refine AW.ret ?_
  rw [← hQr]
  simp only [go_sem, reduceIte, reduceCtorEq, Nat.reduceAdd, Nat.reduceMul, Nat.reduceEqDiff, Nat.reduceLT, Nat.reduceLeDiff, Nat.reduceSub, Nat.reducePow, Nat.reduceBEq, Int.reduceToNat, List.reduceReplicate]
  exact Wk.refl _
end Go.Proofs.P

/- A contract that makes memory answers as one that reads. -/
namespace Go.AM
theorem Upd.reads {P : Program} {f : FuncId} {args : List AV} {res : Nat → AV} {s1 : Nat → Store} {r : AV} (h : Upd P f [] args res s1) (hr : Wk (vwF (s1 0) 5 (res 0)) r) : Reads P f true args r := by
  intro w F us hF hgl hl hrel
  have hr' : ∀ i, i < args.length → Rel ⟨fun _ => none, [], clk 0, w, fun _ => False⟩ (args.getD i .any) (us.getD i undef) := fun i hi => .pure _ _ ((hrel i hi).mono fun b hb => ⟨⟨hb.1, fun ⟨π, y, base, h1, _⟩ => by simp [pcontent, sget] at h1, fun h => h⟩, rfl⟩)
  have hst : StOk ⟨fun _ => none, [], clk 0, w, fun _ => False⟩ := start_ok (fun _ h => h.elim) (hgl.mono fun b hb => ⟨⟨hb.1, fun h => h⟩, rfl⟩)
  refine (h (clk 0) 0 0 (fun _ => none) w (fun _ => False) us (fun g hg => hg) (fun hg => Nat.lt_irrefl _ hg) (fun hg => absurd hg (Nat.not_lt_zero _)) hst hl hr').mono fun e w' ⟨u, ρ', h1, h2, h3⟩ => ⟨u, h1, ?_, ?_⟩
  · exact ⟨h2.ext.os, h2.ext.tape, h2.ext.output, h2.ext.size, fun b hb _ => h2.ext.block b hb fun ⟨π, y, base, e1, _⟩ => by simp [pcontent, sget] at e1⟩
  · refine hr _ _ _ (vwF_sound h2.ok (fun b hb => ⟨?_, fun hlt => ?_⟩) 5 (res 0) u h3)
    · obtain ⟨π, y, base, k1, k2⟩ := hb
      exact h2.ok.live_lt k1 k2
    · simp only [if_true] at hlt
      exact (h2.le.imm b ⟨hlt, fun ⟨π, y, base, e1, _⟩ => by simp [pcontent, sget] at e1, fun h => h⟩).1.2.1 hb
/-- A contract that reads, at roots that are given away. -/
theorem Reads.upd {P : Program} {f : FuncId} {s0 : Store} {args args' : List AV} {r : AV} (h : Reads P f true args' r) (ha : args.map (vw s0 5) = args') : Upd P f s0 args (fun _ => r) (fun _ => []) := by
  subst ha
  intro c B k ρ w F us _ _ _ hst hl hrel
  have hargs : ∀ i, i < (args.map (vw s0 5)).length → RelP (immF w fun _ => False) w ((args.map (vw s0 5)).getD i .any) (us.getD i undef) := fun i hi => by
    rw [List.length_map] at hi
    rw [getD_map_vw (vw s0 5) _ _ .any _ hi]
    exact vw_sound hst (fun b hb _ => ⟨hb, fun e => e⟩) 5 _ _ (hrel i hi)
  refine (h w (fun _ => False) us (fun _ h => h.elim) (hst.gl.mono fun b hb => ⟨⟨hb.1, fun e => e⟩, rfl⟩) (by simpa using hl) hargs).mono fun e w' ⟨u, h1, h2, h3⟩ => ⟨u, ρ, h1, ?_, ?_⟩
  · exact hst.goes_grow (s' := []) (fun id R e => by simp [sget] at e) (fun g hg => .inl hg) h2
  · refine .pure _ _ (h3.mono fun b hb => ⟨⟨hb.1, fun ⟨π, y, base, e1, _⟩ => by simp [pcontent, sget] at e1, fun hf => ?_⟩, rfl⟩)
    simp only [if_true] at hb
    exact hb.2 (hst.apart b hf).1
end Go.AM

namespace Go.Proofs.P
open Go.AM Go
set_option maxRecDepth 100000
set_option maxHeartbeats 2000000
theorem rempty2_u (n : Nat) (hn : n ≤ 512) : Upd Tryd.prog 61 [] [.int .i64 n] (fun k => .agg [.int .i64 n, .sl ⟨0, k, none⟩ 0 (wordsN n).toNat none]) (fun k => [(0, some ⟨k, k, 1, words (setW (List.replicate n false) n)⟩)]) := by
  have hwe := wordsN_ref (n : Int)
  have hwn := wordsN_rng (n := (n : Int)) (by omega)
  have hwz : words (setW (List.replicate n false) n) = List.replicate (wordsN n).toNat [.int .u64 0] := by rw [setW_zero]; simp [words]
  have hre : ∀ (m : Ref → Option Ref) (d q : Nat), List.map (fun row => List.map (renC m d) row) (List.replicate q [AV.int .u64 0]) = List.replicate q [AV.int .u64 0] := fun m d q => by simp [renC, ren_int]
  rw [hwz]
  refine Upd.of_body (rs := [.cell 2 35]) Tryd.func61 rfl Tryd.ntmps61 rfl (by simp) ?_
  intro k0 k hk0 hk1
  generalize hQr : retQ _ _ _ = Qr
  refine AW.seq fun K1 hK1 => ?_
  -- region 0
  refine AW.regionK 100 (fun _ => none) [0, 2] [102] ?_
  simp only [go_sem, reduceIte, reduceCtorEq, Nat.reduceAdd, Nat.reduceMul, Nat.reduceEqDiff, Nat.reduceLT, Nat.reduceLeDiff, Nat.reduceSub, Nat.reducePow, Nat.reduceBEq, Int.reduceToNat, List.reduceReplicate, hwe]
  repeat with_reducible refine cj ?_ ?_
  all_goals try first | omega
  refine hK1 _ _ _ ?_; clear hK1
  refine AW.seq fun K2 hK2 => ?_
  -- region 1
  refine AW.regionK 100 (fun _ => none) [2] [102, 107] ?_
  simp only [go_sem, reduceIte, reduceCtorEq, Nat.reduceAdd, Nat.reduceMul, Nat.reduceEqDiff, Nat.reduceLT, Nat.reduceLeDiff, Nat.reduceSub, Nat.reducePow, Nat.reduceBEq, Int.reduceToNat, List.reduceReplicate, hwe]
  repeat with_reducible refine cj ?_ ?_
  all_goals try first | omega
  refine hK2 _ _ _ ?_; clear hK2
  refine AW.ret ?_
  rw [← hQr]
  simp only [go_sem, reduceIte, reduceCtorEq, Nat.reduceAdd, Nat.reduceMul, Nat.reduceEqDiff, Nat.reduceLT, Nat.reduceLeDiff, Nat.reduceSub, Nat.reducePow, Nat.reduceBEq, Int.reduceToNat, List.reduceReplicate, hwe]
  refine ⟨[(107, 0, true)], ?_⟩
  simp only [go_sem, reduceIte, Nat.reduceEqDiff, hre]
theorem rof2_u (n : Nat) (l : List Int) (hn : n ≤ 512) (hl : l.length ≤ 9223372036854775807) (hr : ∀ i ∈ l, 0 ≤ i ∧ i < n) : Upd Tryd.prog 26 [] [.int .i64 n, .rsl 1 (ints l)] (fun k => .agg [.int .i64 n, .sl ⟨0, k, none⟩ 0 (wordsN n).toNat none]) (fun k => [(0, some ⟨k, k, 1, words (setW (rowL n l) n)⟩)]) := by
  have hwn := wordsN_rng (n := (n : Int)) (by omega)
  have he := rempty2_u n hn
  have hz := setW_zero n
  have hrow := ofW_row hr
  rw [← hrow]
  refine Upd.of_body (rs := [.cell 4 35]) Tryd.func26 rfl Tryd.ntmps26 rfl (by simp) ?_
  intro k0 k hk0 hk1
  generalize hQr : retQ _ _ _ = Qr
  refine AW.seq fun K1 hK1 => ?_
  -- region 0
  refine AW.regionK 100 (fun _ => none) [0, 1, 4] [104] ?_
  simp only [go_sem, reduceIte, reduceCtorEq, Nat.reduceAdd, Nat.reduceMul, Nat.reduceEqDiff, Nat.reduceLT, Nat.reduceLeDiff, Nat.reduceSub, Nat.reducePow, Nat.reduceBEq, Int.reduceToNat, List.reduceReplicate]
  repeat with_reducible refine cj ?_ ?_
  all_goals try first | omega
  refine hK1 _ _ _ ?_; clear hK1
  refine AW.seq fun K2 hK2 => ?_
  -- region 1
  refine AW.regionK 100 (fun ii => if ii = 1 then some (.upd [] (fun k => [(0, some ⟨k, k, 1, words (setW (List.replicate n false) n)⟩)]) (fun k => .agg [.int .i64 n, .sl ⟨0, k, none⟩ 0 (wordsN n).toNat none])) else none) [1, 4, 5] [104, 105, 108] ?_
  simp only [go_sem, reduceIte, reduceCtorEq, Nat.reduceAdd, Nat.reduceMul, Nat.reduceEqDiff, Nat.reduceLT, Nat.reduceLeDiff, Nat.reduceSub, Nat.reducePow, Nat.reduceBEq, Int.reduceToNat, List.reduceReplicate, renC_words]
  repeat with_reducible refine cj ?_ ?_
  all_goals try first | (exact he) | omega | exact ent (by kernel_rfl)
  refine hK2 _ _ _ ?_; clear hK2
  refine AW.seq fun K3 hK3 => ?_
  refine AW.seq fun K4 hK4 => ?_
  -- region 2
  refine AW.regionK 100 (fun _ => none) [1, 4, 5, 6] [104, 105, 108] ?_
  simp only [go_sem, reduceIte, reduceCtorEq, Nat.reduceAdd, Nat.reduceMul, Nat.reduceEqDiff, Nat.reduceLT, Nat.reduceLeDiff, Nat.reduceSub, Nat.reducePow, Nat.reduceBEq, Int.reduceToNat, List.reduceReplicate]
  repeat with_reducible refine cj ?_ ?_
  all_goals try first | omega
  refine hK4 _ _ _ ?_; clear hK4
  refine AW.block ?_
  -- loop 1
  refine AW.loopE (fun mm ee ss kk => ∃ (j g4 v4 g v gw vw : Nat), l.length - j = mm ∧ ee = [(1, .rsl 1 (ints l)), (4, .ptr ⟨104, g4, none⟩ 0 0), (5, .ptr ⟨105, g, none⟩ 0 0), (6, .int .i64 (j : Nat))] ∧ ss = [(104, some ⟨g4, v4, 2, [[.int .i64 0, .nilsl]]⟩), (105, some ⟨g, v, 2, [[.int .i64 n, .sl ⟨108, gw, none⟩ 0 (wordsN n).toNat none]]⟩), (108, some ⟨gw, vw, 1, words (ofW n (l.take j))⟩)] ∧ (j ≤ l.length)) ?_ ?_
  · refine ⟨_, 0, ?_, ?_, ?_, ?_, ?_, ?_, rfl, ?henv, ?hstore, ?hst⟩
    case henv =>
      repeat' (first | rfl | refine env_cons ?_ ?_ | refine st_cons ?_ ?_ ?_ ?_ | refine int_eq ?_ | refine bool_eq ?_ | refine rsl_eq ?_ | refine osl_eq ?_ | refine sl_eq ?_ ?_ ?_ | refine ptr_eq ?_ ?_ ?_ | refine agg_eq ?_ | refine es_cons ?_ ?_ | refine row_cons ?_ ?_)
      all_goals (first | (simp; done) | omega | (simp; omega))
    case hstore =>
      repeat' (first | rfl | refine env_cons ?_ ?_ | refine st_cons ?_ ?_ ?_ ?_ | refine int_eq ?_ | refine bool_eq ?_ | refine rsl_eq ?_ | refine osl_eq ?_ | refine sl_eq ?_ ?_ ?_ | refine ptr_eq ?_ ?_ ?_ | refine agg_eq ?_ | refine es_cons ?_ ?_ | refine row_cons ?_ ?_)
      all_goals (simp [ofW, hz])
    case hst =>
      first | trivial | omega | (simp; done) | (simp; omega)
  rintro mm ee ss kk ⟨j, g4, v4, g, v, gw, vw, rfl, rfl, rfl, hI⟩
  generalize hQl1 : thenQ _ _ = Ql1
  refine AW.seq fun K5 hK5 => ?_
  refine AW.seq fun K6 hK6 => ?_
  -- region 3
  refine AW.regionK 100 (fun _ => none) [1, 4, 5, 6, 12] [104, 105, 108] ?_
  simp only [go_sem, reduceIte, reduceCtorEq, Nat.reduceAdd, Nat.reduceMul, Nat.reduceEqDiff, Nat.reduceLT, Nat.reduceLeDiff, Nat.reduceSub, Nat.reducePow, Nat.reduceBEq, Int.reduceToNat, List.reduceReplicate]
  repeat with_reducible refine cj ?_ ?_
  all_goals try first | omega
  refine hK6 _ _ _ ?_; clear hK6
  -- cond 1
  refine AW.cond rfl (by simp only [go_sem, reduceIte, reduceCtorEq, Nat.reduceAdd, Nat.reduceMul, Nat.reduceEqDiff, Nat.reduceLT, Nat.reduceLeDiff, Nat.reduceSub, Nat.reducePow, Nat.reduceBEq, Int.reduceToNat, List.reduceReplicate]) ?_ ?_
  · intro hb
    try simp only [hB, decide_eq_true_eq, decide_eq_false_iff_not] at hb
    obtain ⟨x, hx⟩ := getI (l := l) (j := j) (by omega)
    have hgx := ints_get hx
    have hxr := hr x (List.mem_of_getElem? hx)
    have hwl := ofW_len n (l.take j)
    have hd := div64_rng hxr.1 hxr.2
    have hgw := words_getD (l := ofW n (l.take j)) (i := (x.tdiv 64).toNat) (by omega)
    have hsu := ofW_succ (n := n) hx
    have hwr := wrap64 hxr.1
    unfold setBit at hsu
    refine AW.skip ?_
    refine hK5 _ _ _ ?_; clear hK5
    refine AW.seq fun K7 hK7 => ?_
    refine AW.block ?_
    -- region 5
    refine AW.regionD mixed 100 (fun _ => none) [1, 4, 5, 6] [104, 105, 108] ?_
    simp only [go_sem, reduceIte, reduceCtorEq, Nat.reduceAdd, Nat.reduceMul, Nat.reduceEqDiff, Nat.reduceLT, Nat.reduceLeDiff, Nat.reduceSub, Nat.reducePow, Nat.reduceBEq, Int.reduceToNat, List.reduceReplicate, hgx, hgw, hwl, hwr]
    repeat with_reducible refine cj ?_ ?_
    all_goals try first | omega | exact chk (by kernel_rfl)
    refine hK7 _ _ _ ?_; clear hK7
    -- region 4
    refine AW.regionK 100 (fun _ => none) [1, 4, 5, 6] [104, 105, 108] ?_
    simp only [go_sem, reduceIte, reduceCtorEq, Nat.reduceAdd, Nat.reduceMul, Nat.reduceEqDiff, Nat.reduceLT, Nat.reduceLeDiff, Nat.reduceSub, Nat.reducePow, Nat.reduceBEq, Int.reduceToNat, List.reduceReplicate]
    repeat with_reducible refine cj ?_ ?_
    all_goals try first | omega
    rw [← hQl1]
    change Exists _
    refine ⟨_, ?hm, j + 1, ?_, ?_, ?_, ?_, ?_, ?_, rfl, ?henv, ?hstore, ?hst⟩
    case henv =>
      repeat' (first | rfl | refine env_cons ?_ ?_ | refine st_cons ?_ ?_ ?_ ?_ | refine int_eq ?_ | refine bool_eq ?_ | refine rsl_eq ?_ | refine osl_eq ?_ | refine sl_eq ?_ ?_ ?_ | refine ptr_eq ?_ ?_ ?_ | refine agg_eq ?_ | refine es_cons ?_ ?_ | refine row_cons ?_ ?_)
      all_goals (first | (simp; done) | omega | (simp; omega))
    case hstore =>
      repeat' (first | rfl | refine env_cons ?_ ?_ | refine st_cons ?_ ?_ ?_ ?_ | refine int_eq ?_ | refine bool_eq ?_ | refine rsl_eq ?_ | refine osl_eq ?_ | refine sl_eq ?_ ?_ ?_ | refine ptr_eq ?_ ?_ ?_ | refine agg_eq ?_ | refine es_cons ?_ ?_ | refine row_cons ?_ ?_)
      all_goals (rw [hsu])
    case hst =>
      first | trivial | omega | (simp; done) | (simp; omega)
    case hm => omega
  · intro hb
    try simp only [hB, decide_eq_true_eq, decide_eq_false_iff_not] at hb
    refine AW.keep [4, 5] [104, 105, 108] ?_
    try simp only [go_sem, reduceIte, reduceCtorEq, Nat.reduceAdd, Nat.reduceMul, Nat.reduceEqDiff, Nat.reduceLT, Nat.reduceLeDiff, Nat.reduceSub, Nat.reducePow, Nat.reduceBEq, Int.reduceToNat, List.reduceReplicate]
    refine AW.exit ?_
    rw [← hQl1]
    refine hK3 _ _ _ ?_; clear hK3
    refine AW.seq fun K8 hK8 => ?_
    -- region 6
    refine AW.regionK 100 (fun _ => none) [4] [104, 108] ?_
    simp only [go_sem, reduceIte, reduceCtorEq, Nat.reduceAdd, Nat.reduceMul, Nat.reduceEqDiff, Nat.reduceLT, Nat.reduceLeDiff, Nat.reduceSub, Nat.reducePow, Nat.reduceBEq, Int.reduceToNat, List.reduceReplicate]
    repeat with_reducible refine cj ?_ ?_
    all_goals try first | omega
    refine hK8 _ _ _ ?_; clear hK8
    refine AW.ret ?_
    rw [← hQr]
    simp only [go_sem, reduceIte, reduceCtorEq, Nat.reduceAdd, Nat.reduceMul, Nat.reduceEqDiff, Nat.reduceLT, Nat.reduceLeDiff, Nat.reduceSub, Nat.reducePow, Nat.reduceBEq, Int.reduceToNat, List.reduceReplicate]
    have hj : j = l.length := by omega
    subst hj
    rw [List.take_of_length_le (Nat.le_refl _)]
    refine ⟨[(108, 0, true)], ?_⟩
    simp only [go_sem, reduceIte, Nat.reduceEqDiff, renC_words]
theorem rowU_reads {n : Nat} (b : List Bool) (hb : b.length = n) (k : Nat) : vwF [(0, some ⟨k, k, 1, words (setW b n)⟩)] 5 (.agg [.int .i64 n, .sl ⟨0, k, none⟩ 0 (wordsN n).toNat none]) = .agg (rowB b) := by
  subst hb
  have htk : (words (setW b b.length)).take (wordsN b.length).toNat = words (setW b b.length) := List.take_of_length_le (by rw [words_len, setW_len']; exact Nat.le_refl _)
  simp only [vwF_agg, List.map_cons, List.map_nil, vwF_int, vwF_sl, content, sget, if_true, List.drop_zero, htk, vwcF_words, rowB]
theorem rof2_r (n : Nat) (l : List Int) (hn : n ≤ 512) (hl : l.length ≤ 9223372036854775807) (hr : ∀ i ∈ l, 0 ≤ i ∧ i < n) : Reads Tryd.prog 26 true [.int .i64 n, .rsl 1 (ints l)] (.agg (rowB (rowL n l))) :=
  (rof2_u n l hn hl hr).reads (Wk.of_eq (rowU_reads _ (rowL_len _ _) 0))
def memU (b : List Bool) (i : Nat) : List Nat := (List.range i).filter fun i => b.getD i false
theorem memU_succ (b : List Bool) (i : Nat) : memU b (i + 1) = if b.getD i false = true then memU b i ++ [i] else memU b i := by
  unfold memU; rw [List.range_succ, List.filter_append]; simp only [List.filter_cons, List.filter_nil]; split <;> simp
theorem memU_le (b : List Bool) (i : Nat) : (memU b i).length ≤ i := by
  unfold memU; have := List.length_filter_le (fun i => b.getD i false) (List.range i); simpa using this
theorem rmembers_u (b : List Bool) (hb : b.length ≤ 512) : Upd Tryd.prog 43 [] [.agg (rowB b)] (fun k => .sl ⟨0, k, none⟩ 0 (memB b).length none) (fun k => [(0, some ⟨k, k, 1, ints (nats (memB b))⟩)]) := by
  have hbi := rbrow_r b hb
  have hmb : memB b = memU b b.length := rfl
  unfold rowB at *
  refine Upd.of_body (rs := [.tmp 2]) Tryd.func43 rfl Tryd.ntmps43 rfl (by simp) ?_
  intro k0 k hk0 hk1
  generalize hQr : retQ _ _ _ = Qr
  refine AW.seq fun K1 hK1 => ?_
  -- region 0
  refine AW.regionK 100 (fun _ => none) [1] [101] ?_
  simp only [go_sem, reduceIte, reduceCtorEq, Nat.reduceAdd, Nat.reduceMul, Nat.reduceEqDiff, Nat.reduceLT, Nat.reduceLeDiff, Nat.reduceSub, Nat.reducePow, Nat.reduceBEq, Int.reduceToNat, List.reduceReplicate]
  repeat with_reducible refine cj ?_ ?_
  all_goals try first | omega
  refine hK1 _ _ _ ?_; clear hK1
  refine AW.seq fun K2 hK2 => ?_
  -- region 1
  refine AW.regionK 100 (fun _ => none) [1, 3] [101] ?_
  simp only [go_sem, reduceIte, reduceCtorEq, Nat.reduceAdd, Nat.reduceMul, Nat.reduceEqDiff, Nat.reduceLT, Nat.reduceLeDiff, Nat.reduceSub, Nat.reducePow, Nat.reduceBEq, Int.reduceToNat, List.reduceReplicate]
  repeat with_reducible refine cj ?_ ?_
  all_goals try first | omega
  refine hK2 _ _ _ ?_; clear hK2
  refine AW.seq fun K3 hK3 => ?_
  refine AW.seq fun K4 hK4 => ?_
  -- region 2
  refine AW.regionK 100 (fun _ => none) [1, 3, 4] [101] ?_
  simp only [go_sem, reduceIte, reduceCtorEq, Nat.reduceAdd, Nat.reduceMul, Nat.reduceEqDiff, Nat.reduceLT, Nat.reduceLeDiff, Nat.reduceSub, Nat.reducePow, Nat.reduceBEq, Int.reduceToNat, List.reduceReplicate]
  repeat with_reducible refine cj ?_ ?_
  all_goals try first | omega
  refine hK4 _ _ _ ?_; clear hK4
  refine AW.block ?_
  refine AW.nilOwn 3 200 1 (by simp only [go_sem, reduceIte, Nat.reduceEqDiff]) ?_
  refine AW.keep [1, 3, 4] [101, 200] ?_
  simp only [go_sem, reduceIte, Nat.reduceEqDiff]
  -- loop 1
  refine AW.loopE (fun mm ee ss kk => ∃ (i g1 v1 g v : Nat), b.length - i = mm ∧ ee = [(1, .ptr ⟨101, g1, none⟩ 0 0), (3, .sl ⟨200, g, none⟩ 0 (memU b i).length none), (4, .int .i64 (i : Nat))] ∧ ss = [(101, some ⟨g1, v1, 2, [[.int .i64 b.length, .rsl 1 (words (setW b b.length))]]⟩), (200, some ⟨g, v, 1, ints (nats (memU b i))⟩)] ∧ (i ≤ b.length)) ?_ ?_
  · refine ⟨_, 0, ?_, ?_, ?_, ?_, rfl, ?henv, ?hstore, ?hst⟩
    case henv =>
      repeat' (first | rfl | refine env_cons ?_ ?_ | refine st_cons ?_ ?_ ?_ ?_ | refine int_eq ?_ | refine bool_eq ?_ | refine rsl_eq ?_ | refine osl_eq ?_ | refine sl_eq ?_ ?_ ?_ | refine ptr_eq ?_ ?_ ?_ | refine agg_eq ?_ | refine es_cons ?_ ?_ | refine row_cons ?_ ?_)
      all_goals (first | (simp; done) | omega | (simp; omega))
    case hstore =>
      repeat' (first | rfl | refine env_cons ?_ ?_ | refine st_cons ?_ ?_ ?_ ?_ | refine int_eq ?_ | refine bool_eq ?_ | refine rsl_eq ?_ | refine osl_eq ?_ | refine sl_eq ?_ ?_ ?_ | refine ptr_eq ?_ ?_ ?_ | refine agg_eq ?_ | refine es_cons ?_ ?_ | refine row_cons ?_ ?_)
      all_goals (first | (simp; done) | omega | (simp; omega))
    case hst =>
      first | trivial | omega | (simp; done) | (simp; omega)
  rintro mm ee ss kk ⟨i, g1, v1, g, v, rfl, rfl, rfl, hI⟩
  generalize hQl1 : thenQ _ _ = Ql1
  refine AW.seq fun K5 hK5 => ?_
  refine AW.seq fun K6 hK6 => ?_
  -- region 3
  refine AW.regionK 100 (fun _ => none) [1, 3, 4, 8] [101, 200] ?_
  simp only [go_sem, reduceIte, reduceCtorEq, Nat.reduceAdd, Nat.reduceMul, Nat.reduceEqDiff, Nat.reduceLT, Nat.reduceLeDiff, Nat.reduceSub, Nat.reducePow, Nat.reduceBEq, Int.reduceToNat, List.reduceReplicate]
  repeat with_reducible refine cj ?_ ?_
  all_goals try first | omega
  refine hK6 _ _ _ ?_; clear hK6
  -- cond 1
  refine AW.cond rfl (by simp only [go_sem, reduceIte, reduceCtorEq, Nat.reduceAdd, Nat.reduceMul, Nat.reduceEqDiff, Nat.reduceLT, Nat.reduceLeDiff, Nat.reduceSub, Nat.reducePow, Nat.reduceBEq, Int.reduceToNat, List.reduceReplicate]) ?_ ?_
  · intro hb
    try simp only [hB, decide_eq_true_eq, decide_eq_false_iff_not] at hb
    have hbr := hbi i (by omega)
    have hms := memU_succ b i
    have hml := memU_le b i
    have htk : (ints (nats (memU b i))).take (memU b i).length = ints (nats (memU b i)) := List.take_of_length_le (by rw [ints_len, nats_len]; exact Nat.le_refl _)
    generalize memU b i = M at *
    refine AW.skip ?_
    refine hK5 _ _ _ ?_; clear hK5
    refine AW.seq fun K7 hK7 => ?_
    refine AW.block ?_
    refine AW.seq fun K8 hK8 => ?_
    -- region 5
    refine AW.regionK 100 (fun ii => if ii = 2 then some (.reads false (.bool (b.getD i false))) else none) [1, 3, 4, 13] [101, 200] ?_
    simp only [go_sem, reduceIte, reduceCtorEq, Nat.reduceAdd, Nat.reduceMul, Nat.reduceEqDiff, Nat.reduceLT, Nat.reduceLeDiff, Nat.reduceSub, Nat.reducePow, Nat.reduceBEq, Int.reduceToNat, List.reduceReplicate]
    repeat with_reducible refine cj ?_ ?_
    all_goals try first | (exact hbr) | omega | exact ent (by kernel_rfl)
    refine hK8 _ _ _ ?_; clear hK8
    -- cond 2
    refine AW.cond rfl (by simp only [go_sem, reduceIte, reduceCtorEq, Nat.reduceAdd, Nat.reduceMul, Nat.reduceEqDiff, Nat.reduceLT, Nat.reduceLeDiff, Nat.reduceSub, Nat.reducePow, Nat.reduceBEq, Int.reduceToNat, List.reduceReplicate]) ?_ ?_
    · intro hb
      try simp only [hB, decide_eq_true_eq, decide_eq_false_iff_not] at hb
      rw [if_pos hb] at hms
      -- region 6
      refine AW.regionK 100 (fun _ => none) [1, 3, 4] [101, 200] ?_
      simp only [go_sem, reduceIte, reduceCtorEq, Nat.reduceAdd, Nat.reduceMul, Nat.reduceEqDiff, Nat.reduceLT, Nat.reduceLeDiff, Nat.reduceSub, Nat.reducePow, Nat.reduceBEq, Int.reduceToNat, List.reduceReplicate, htk, ints_app, nats_app, nats_len, ints_len]
      repeat with_reducible refine cj ?_ ?_
      all_goals try first | omega | (simp [scP, scalar]; done) | exact scP_words _ | exact scP_ints _ | exact scP_bools _
      refine hK7 _ _ _ ?_; clear hK7
      -- region 4
      refine AW.regionK 100 (fun _ => none) [1, 3, 4] [101, 200] ?_
      simp only [go_sem, reduceIte, reduceCtorEq, Nat.reduceAdd, Nat.reduceMul, Nat.reduceEqDiff, Nat.reduceLT, Nat.reduceLeDiff, Nat.reduceSub, Nat.reducePow, Nat.reduceBEq, Int.reduceToNat, List.reduceReplicate]
      repeat with_reducible refine cj ?_ ?_
      all_goals try first | omega
      rw [← hQl1]
      change Exists _
      refine ⟨_, ?hm, i + 1, ?_, ?_, ?_, ?_, rfl, ?henv, ?hstore, ?hst⟩
      case henv =>
        repeat' (first | rfl | refine env_cons ?_ ?_ | refine st_cons ?_ ?_ ?_ ?_ | refine int_eq ?_ | refine bool_eq ?_ | refine rsl_eq ?_ | refine osl_eq ?_ | refine sl_eq ?_ ?_ ?_ | refine ptr_eq ?_ ?_ ?_ | refine agg_eq ?_ | refine es_cons ?_ ?_ | refine row_cons ?_ ?_)
        all_goals (rw [hms]; try simp)
      case hstore =>
        repeat' (first | rfl | refine env_cons ?_ ?_ | refine st_cons ?_ ?_ ?_ ?_ | refine int_eq ?_ | refine bool_eq ?_ | refine rsl_eq ?_ | refine osl_eq ?_ | refine sl_eq ?_ ?_ ?_ | refine ptr_eq ?_ ?_ ?_ | refine agg_eq ?_ | refine es_cons ?_ ?_ | refine row_cons ?_ ?_)
        all_goals (rw [hms])
      case hst =>
        first | trivial | omega | (simp; done) | (simp; omega)
      case hm => omega
    · intro hb
      try simp only [hB, decide_eq_true_eq, decide_eq_false_iff_not] at hb
      rw [if_neg (by rw [hb]; simp)] at hms
      refine AW.skip ?_
      refine hK7 _ _ _ ?_; clear hK7
      -- region 4
      refine AW.regionK 100 (fun _ => none) [1, 3, 4] [101, 200] ?_
      simp only [go_sem, reduceIte, reduceCtorEq, Nat.reduceAdd, Nat.reduceMul, Nat.reduceEqDiff, Nat.reduceLT, Nat.reduceLeDiff, Nat.reduceSub, Nat.reducePow, Nat.reduceBEq, Int.reduceToNat, List.reduceReplicate]
      repeat with_reducible refine cj ?_ ?_
      all_goals try first | omega
      rw [← hQl1]
      change Exists _
      refine ⟨_, ?hm, i + 1, ?_, ?_, ?_, ?_, rfl, ?henv, ?hstore, ?hst⟩
      case henv =>
        repeat' (first | rfl | refine env_cons ?_ ?_ | refine st_cons ?_ ?_ ?_ ?_ | refine int_eq ?_ | refine bool_eq ?_ | refine rsl_eq ?_ | refine osl_eq ?_ | refine sl_eq ?_ ?_ ?_ | refine ptr_eq ?_ ?_ ?_ | refine agg_eq ?_ | refine es_cons ?_ ?_ | refine row_cons ?_ ?_)
        all_goals (rw [hms]; try simp)
      case hstore =>
        repeat' (first | rfl | refine env_cons ?_ ?_ | refine st_cons ?_ ?_ ?_ ?_ | refine int_eq ?_ | refine bool_eq ?_ | refine rsl_eq ?_ | refine osl_eq ?_ | refine sl_eq ?_ ?_ ?_ | refine ptr_eq ?_ ?_ ?_ | refine agg_eq ?_ | refine es_cons ?_ ?_ | refine row_cons ?_ ?_)
        all_goals (rw [hms])
      case hst =>
        first | trivial | omega | (simp; done) | (simp; omega)
      case hm => omega
  · intro hb
    try simp only [hB, decide_eq_true_eq, decide_eq_false_iff_not] at hb
    refine AW.exit ?_
    rw [← hQl1]
    refine hK3 _ _ _ ?_; clear hK3
    refine AW.seq fun K9 hK9 => ?_
    -- region 7
    refine AW.regionK 100 (fun _ => none) [2] [200] ?_
    simp only [go_sem, reduceIte, reduceCtorEq, Nat.reduceAdd, Nat.reduceMul, Nat.reduceEqDiff, Nat.reduceLT, Nat.reduceLeDiff, Nat.reduceSub, Nat.reducePow, Nat.reduceBEq, Int.reduceToNat, List.reduceReplicate]
    repeat with_reducible refine cj ?_ ?_
    all_goals try first | omega
    refine hK9 _ _ _ ?_; clear hK9
    refine AW.ret ?_
    rw [← hQr]
    simp only [go_sem, reduceIte, reduceCtorEq, Nat.reduceAdd, Nat.reduceMul, Nat.reduceEqDiff, Nat.reduceLT, Nat.reduceLeDiff, Nat.reduceSub, Nat.reducePow, Nat.reduceBEq, Int.reduceToNat, List.reduceReplicate]
    have hi : i = b.length := by omega
    subst hi
    refine ⟨[(200, 0, true)], ?_⟩
    simp only [go_sem, reduceIte, Nat.reduceEqDiff, renC_ints, hmb]
theorem rmembers_r (b : List Bool) (hb : b.length ≤ 512) : Reads Tryd.prog 43 true [.agg (rowB b)] (.rsl 1 (ints (nats (memB b)))) := by
  refine (rmembers_u b hb).reads (Wk.of_eq ?_)
  have htk : (ints (nats (memB b))).take (memB b).length = ints (nats (memB b)) := List.take_of_length_le (by rw [ints_len, nats_len]; exact Nat.le_refl _)
  simp only [vwF_sl, content, sget, if_true, List.drop_zero, htk, vwcF_ints]
theorem runion_r (a b : List Bool) (ha : a.length ≤ 512) (hl : b.length = a.length) : Reads Tryd.prog 73 false [.agg (rowB a), .agg (rowB b)] (.agg (rowB (List.zipWith (· || ·) a b))) := by
  have h1 := rmembers_u a ha
  have h2 := (rmembers_r b (by omega)).old
  have hma := memB_le a
  have hmb := memB_le b
  have ho := rof2_r a.length (nats (memB a) ++ nats (memB b)) ha (by simp [nats]; omega) (fun i hi => by
    rcases List.mem_append.1 hi with h | h <;> (obtain ⟨q, h3, h4⟩ := List.mem_map.1 h; have := (memB_mem.1 h3).1; omega))
  have hrow : rowL a.length (nats (memB a) ++ nats (memB b)) = List.zipWith (· || ·) a b := by
    refine getD_extB (by simp [rowL_len, hl]) fun i hi => ?_
    rw [rowL_len] at hi
    rw [rowL_get hi, zipB_get _ hl.symm hi]
    refine bool_ext ?_
    rw [decide_eq_true_eq, List.mem_append, Bool.or_eq_true]
    have hm : ∀ c : List Bool, c.length = a.length → ((i : Int) ∈ nats (memB c) ↔ c.getD i false = true) := fun c hc => by
      unfold nats
      rw [List.mem_map]
      exact ⟨fun ⟨q, h3, h4⟩ => by rw [← (by omega : q = i)]; exact (memB_mem.1 h3).2, fun h => ⟨i, memB_mem.2 ⟨by omega, h⟩, rfl⟩⟩
    rw [hm a rfl, hm b hl]
  rw [hrow] at ho
  have hap : ints (nats (memB a)) ++ ints (nats (memB b)) = ints (nats (memB a) ++ nats (memB b)) := by simp [ints]
  have htk : (ints (nats (memB a))).take (memB a).length = ints (nats (memB a)) := List.take_of_length_le (by rw [ints_len, nats_len]; exact Nat.le_refl _)
  have htk2 : (ints (nats (memB a) ++ nats (memB b))).take ((memB a).length + (memB b).length) = ints (nats (memB a) ++ nats (memB b)) := List.take_of_length_le (by simp [ints, nats])
  unfold rowB at *
  refine Reads.body (rs := [.cell 4 35]) Tryd.func73 rfl Tryd.ntmps73 rfl (by simp) ?_
  generalize hQr : retQ _ _ _ = Qr
  refine AW.seq fun K1 hK1 => ?_
  -- region 0
  refine AW.regionK 0 (fun _ => none) [2, 3, 4] [2, 3, 4] ?_
  simp only [go_sem, reduceIte, reduceCtorEq, Nat.reduceAdd, Nat.reduceMul, Nat.reduceEqDiff, Nat.reduceLT, Nat.reduceLeDiff, Nat.reduceSub, Nat.reducePow, Nat.reduceBEq, Int.reduceToNat, List.reduceReplicate]
  repeat with_reducible refine cj ?_ ?_
  all_goals try first | omega
  refine hK1 _ _ _ ?_; clear hK1
  refine AW.seq fun K2 hK2 => ?_
  -- region 1
  refine AW.regionD mixed 0 (fun ii => if ii = 3 then some (.upd [] (fun k => [(0, some ⟨k, k, 1, ints (nats (memB a))⟩)]) (fun k => .sl ⟨0, k, none⟩ 0 (memB a).length none)) else if ii = 5 then some (.reads false (.rsl 1 (ints (nats (memB b))))) else if ii = 7 then some (.reads true (.agg [.int .i64 (List.zipWith (· || ·) a b).length, .rsl 1 (words (setW (List.zipWith (· || ·) a b) (List.zipWith (· || ·) a b).length))])) else none) [4] [4] ?_
  simp only [go_sem, reduceIte, reduceCtorEq, Nat.reduceAdd, Nat.reduceMul, Nat.reduceEqDiff, Nat.reduceLT, Nat.reduceLeDiff, Nat.reduceSub, Nat.reducePow, Nat.reduceBEq, Int.reduceToNat, List.reduceReplicate, renC_ints, htk, hap, ints_len, nats_len, htk2, List.length_append]
  repeat with_reducible refine cj ?_ ?_
  all_goals try first | (first | exact h1 | exact h2 | exact ho) | omega | exact chk (by kernel_rfl) | exact ent (by kernel_rfl) | (simp [scP, scalar]; done) | exact scP_words _ | exact scP_ints _ | exact scP_bools _
  refine hK2 _ _ _ ?_; clear hK2
  refine AW.ret ?_
  rw [← hQr]
  simp only [go_sem, reduceIte, reduceCtorEq, Nat.reduceAdd, Nat.reduceMul, Nat.reduceEqDiff, Nat.reduceLT, Nat.reduceLeDiff, Nat.reduceSub, Nat.reducePow, Nat.reduceBEq, Int.reduceToNat, List.reduceReplicate]
  exact Wk.refl _
end Go.Proofs.P

/- A row that takes another one bit by bit, in a table. -/
namespace Go.AM
section
variable {n : Nat} {U : List (List Bool)} (h : Sq n U) {i k : Nat} (hi : i < n) (hk : k < n)
include h hi hk
end
end Go.AM

namespace Go.Proofs.P
open Go.AM Go
set_option maxRecDepth 100000
set_option maxHeartbeats 2000000
theorem rless_r (n : Nat) (t : List (List Bool)) (hs : Sq n t) (hn : n ≤ 512) (i j : Nat) (hi : i < n) (hj : j < n) : Reads Tryd.prog 17 false [relB t, .int .i64 i, .int .i64 j] (.bool (atT t i j)) := by
  have hrl := hs.rowLen hi
  have hgt := tabR_get (t := t) (i := i) (by rw [hs.len]; exact hi)
  have htl := tabR_len t
  have hlen := hs.len
  have hat : atT t i j = (rowT t i).getD j false := rfl
  generalize hb : rowT t i = b at *
  have hwl := setW_len' b
  have hd := div64_rng (i := (j : Int)) (n := b.length) (by omega) (by omega)
  have hwn := wordsN_rng (n := (b.length : Int)) (by omega)
  have hgw := words_getD (l := setW b b.length) (i := ((j : Int).tdiv 64).toNat) (by omega)
  have hbt := bit_hasW (setW_ok b) (i := (j : Int)) (by omega)
  have hwr := wrap64 (i := (j : Int)) (by omega)
  rw [hasW_row (by omega), ← hat] at hbt
  unfold relB
  refine Reads.body (rs := [.tmp 6]) Tryd.func17 rfl Tryd.ntmps17 rfl (by simp) ?_
  generalize hQr : retQ _ _ _ = Qr
  refine AW.seq fun K1 hK1 => ?_
  -- region 0
  refine AW.regionK 0 (fun _ => none) [1, 2, 3] [3] ?_
  simp only [go_sem, reduceIte, reduceCtorEq, Nat.reduceAdd, Nat.reduceMul, Nat.reduceEqDiff, Nat.reduceLT, Nat.reduceLeDiff, Nat.reduceSub, Nat.reducePow, Nat.reduceBEq, Int.reduceToNat, List.reduceReplicate]
  repeat with_reducible refine cj ?_ ?_
  all_goals try first | omega
  refine hK1 _ _ _ ?_; clear hK1
  refine AW.seq fun K2 hK2 => ?_
  -- region 1
  refine AW.regionK 0 (fun _ => none) [6] [] ?_
  simp only [go_sem, reduceIte, reduceCtorEq, Nat.reduceAdd, Nat.reduceMul, Nat.reduceEqDiff, Nat.reduceLT, Nat.reduceLeDiff, Nat.reduceSub, Nat.reducePow, Nat.reduceBEq, Int.reduceToNat, List.reduceReplicate, hgt, rowB, hgw, hwr]
  repeat with_reducible refine cj ?_ ?_
  all_goals try first | omega
  refine hK2 _ _ _ ?_; clear hK2
  refine AW.ret ?_
  rw [← hQr]
  simp only [go_sem, reduceIte, reduceCtorEq, Nat.reduceAdd, Nat.reduceMul, Nat.reduceEqDiff, Nat.reduceLT, Nat.reduceLeDiff, Nat.reduceSub, Nat.reducePow, Nat.reduceBEq, Int.reduceToNat, List.reduceReplicate]
  exact Wk.of_eq (by rw [hbt])
theorem rformed_r (rs : List USet) (hl : longR rs) (hok : ∀ x ∈ rs, okW x.W) : Reads Tryd.prog 29 false [relV rs] (.bool (validR rs)) := by
  have hl1 := hl.1
  have hvx := fun x hx => rvalid2_r (USet.N x) x.W (hok x hx) (hl.2 x hx)
  have hva := validR_any rs
  unfold relV
  refine Reads.body (rs := [.tmp 2]) Tryd.func29 rfl Tryd.ntmps29 rfl (by simp) ?_
  generalize hQr : retQ _ _ _ = Qr
  refine AW.seq fun K1 hK1 => ?_
  -- region 0
  refine AW.regionK 0 (fun _ => none) [1] [1] ?_
  simp only [go_sem, reduceIte, reduceCtorEq, Nat.reduceAdd, Nat.reduceMul, Nat.reduceEqDiff, Nat.reduceLT, Nat.reduceLeDiff, Nat.reduceSub, Nat.reducePow, Nat.reduceBEq, Int.reduceToNat, List.reduceReplicate]
  repeat with_reducible refine cj ?_ ?_
  all_goals try first | omega
  refine hK1 _ _ _ ?_; clear hK1
  refine AW.seq fun K2 hK2 => ?_
  -- region 1
  refine AW.regionK 0 (fun _ => none) [1, 3] [1] ?_
  simp only [go_sem, reduceIte, reduceCtorEq, Nat.reduceAdd, Nat.reduceMul, Nat.reduceEqDiff, Nat.reduceLT, Nat.reduceLeDiff, Nat.reduceSub, Nat.reducePow, Nat.reduceBEq, Int.reduceToNat, List.reduceReplicate]
  repeat with_reducible refine cj ?_ ?_
  all_goals try first | omega
  refine hK2 _ _ _ ?_; clear hK2
  refine AW.seq fun K3 hK3 => ?_
  refine AW.seq fun K4 hK4 => ?_
  -- region 2
  refine AW.regionK 0 (fun _ => none) [1, 3, 9] [1] ?_
  simp only [go_sem, reduceIte, reduceCtorEq, Nat.reduceAdd, Nat.reduceMul, Nat.reduceEqDiff, Nat.reduceLT, Nat.reduceLeDiff, Nat.reduceSub, Nat.reducePow, Nat.reduceBEq, Int.reduceToNat, List.reduceReplicate]
  repeat with_reducible refine cj ?_ ?_
  all_goals try first | omega
  refine hK4 _ _ _ ?_; clear hK4
  -- cond 1
  refine AW.cond rfl (by simp only [go_sem, reduceIte, reduceCtorEq, Nat.reduceAdd, Nat.reduceMul, Nat.reduceEqDiff, Nat.reduceLT, Nat.reduceLeDiff, Nat.reduceSub, Nat.reducePow, Nat.reduceBEq, Int.reduceToNat, List.reduceReplicate]) ?_ ?_
  · intro hb
    try simp only [hB, decide_eq_true_eq, decide_eq_false_iff_not] at hb
    refine AW.seq fun K5 hK5 => ?_
    -- region 3
    refine AW.regionK 0 (fun _ => none) [2] [] ?_
    simp only [go_sem, reduceIte, reduceCtorEq, Nat.reduceAdd, Nat.reduceMul, Nat.reduceEqDiff, Nat.reduceLT, Nat.reduceLeDiff, Nat.reduceSub, Nat.reducePow, Nat.reduceBEq, Int.reduceToNat, List.reduceReplicate]
    repeat with_reducible refine cj ?_ ?_
    all_goals try first | omega
    refine hK5 _ _ _ ?_; clear hK5
    refine AW.ret ?_
    rw [← hQr]
    simp only [go_sem, reduceIte, reduceCtorEq, Nat.reduceAdd, Nat.reduceMul, Nat.reduceEqDiff, Nat.reduceLT, Nat.reduceLeDiff, Nat.reduceSub, Nat.reducePow, Nat.reduceBEq, Int.reduceToNat, List.reduceReplicate]
    exact Wk.of_eq (by rw [hva, decide_eq_false (by omega)]; simp)
  · intro hb
    try simp only [hB, decide_eq_true_eq, decide_eq_false_iff_not] at hb
    have h512 : rs.length ≤ 512 := by omega
    refine AW.skip ?_
    refine hK3 _ _ _ ?_; clear hK3
    refine AW.seq fun K6 hK6 => ?_
    refine AW.seq fun K7 hK7 => ?_
    -- region 4
    refine AW.regionK 0 (fun _ => none) [1, 3, 4] [1] ?_
    simp only [go_sem, reduceIte, reduceCtorEq, Nat.reduceAdd, Nat.reduceMul, Nat.reduceEqDiff, Nat.reduceLT, Nat.reduceLeDiff, Nat.reduceSub, Nat.reducePow, Nat.reduceBEq, Int.reduceToNat, List.reduceReplicate]
    repeat with_reducible refine cj ?_ ?_
    all_goals try first | omega
    refine hK7 _ _ _ ?_; clear hK7
    refine AW.block ?_
    -- loop 1
    refine AW.loopE (fun mm ee ss kk => ∃ (i g1 v1 : Nat), rs.length - i = mm ∧ ee = [(1, .ptr ⟨1, g1, none⟩ 0 0), (3, .int .i64 rs.length), (4, .int .i64 (i : Nat))] ∧ ss = [(1, some ⟨g1, v1, 1, [[.rsl 2 (rs.map rowV)]]⟩)] ∧ (i ≤ rs.length ∧ (rs.take i).any (badRow rs.length) = false)) ?_ ?_
    · refine ⟨_, 0, ?_, ?_, rfl, ?henv, ?hstore, ?hst⟩
      case henv =>
        repeat' (first | rfl | refine env_cons ?_ ?_ | refine st_cons ?_ ?_ ?_ ?_ | refine int_eq ?_ | refine bool_eq ?_ | refine rsl_eq ?_ | refine osl_eq ?_ | refine sl_eq ?_ ?_ ?_ | refine ptr_eq ?_ ?_ ?_ | refine agg_eq ?_ | refine es_cons ?_ ?_ | refine row_cons ?_ ?_)
        all_goals (first | (simp; done) | omega | (simp; omega))
      case hstore =>
        repeat' (first | rfl | refine env_cons ?_ ?_ | refine st_cons ?_ ?_ ?_ ?_ | refine int_eq ?_ | refine bool_eq ?_ | refine rsl_eq ?_ | refine osl_eq ?_ | refine sl_eq ?_ ?_ ?_ | refine ptr_eq ?_ ?_ ?_ | refine agg_eq ?_ | refine es_cons ?_ ?_ | refine row_cons ?_ ?_)
        all_goals (first | (simp; done) | omega | (simp; omega))
      case hst =>
        exact ⟨Nat.zero_le _, rfl⟩
    rintro mm ee ss kk ⟨i, g1, v1, rfl, rfl, rfl, hI⟩
    generalize hQl1 : thenQ _ _ = Ql1
    obtain ⟨hi, hall⟩ := hI
    refine AW.seq fun K8 hK8 => ?_
    refine AW.seq fun K9 hK9 => ?_
    -- region 5
    refine AW.regionK 0 (fun _ => none) [1, 3, 4, 12] [1] ?_
    simp only [go_sem, reduceIte, reduceCtorEq, Nat.reduceAdd, Nat.reduceMul, Nat.reduceEqDiff, Nat.reduceLT, Nat.reduceLeDiff, Nat.reduceSub, Nat.reducePow, Nat.reduceBEq, Int.reduceToNat, List.reduceReplicate]
    repeat with_reducible refine cj ?_ ?_
    all_goals try first | omega
    refine hK9 _ _ _ ?_; clear hK9
    -- cond 2
    refine AW.cond rfl (by simp only [go_sem, reduceIte, reduceCtorEq, Nat.reduceAdd, Nat.reduceMul, Nat.reduceEqDiff, Nat.reduceLT, Nat.reduceLeDiff, Nat.reduceSub, Nat.reducePow, Nat.reduceBEq, Int.reduceToNat, List.reduceReplicate]) ?_ ?_
    · intro hb
      try simp only [hB, decide_eq_true_eq, decide_eq_false_iff_not] at hb
      obtain ⟨x, hx⟩ := getI (l := rs) (j := i) (by omega)
      have hgx := getV (f := rowV) hx
      have hats := any_take_succ (p := badRow rs.length) hx
      have hbx := hvx x (List.mem_of_getElem? hx)
      have hbd : badRow rs.length x = !(decide (x.N = rs.length) && validS x.N x.W) := rfl
      refine AW.skip ?_
      refine hK8 _ _ _ ?_; clear hK8
      refine AW.seq fun K10 hK10 => ?_
      refine AW.block ?_
      refine AW.seq fun K11 hK11 => ?_
      -- region 7
      refine AW.regionK 0 (fun ii => if ii = 14 then some (.reads false (.bool (validS x.N x.W))) else none) [1, 3, 4, 31] [1] ?_
      simp only [go_sem, reduceIte, reduceCtorEq, Nat.reduceAdd, Nat.reduceMul, Nat.reduceEqDiff, Nat.reduceLT, Nat.reduceLeDiff, Nat.reduceSub, Nat.reducePow, Nat.reduceBEq, Int.reduceToNat, List.reduceReplicate, hgx, rowV]
      repeat with_reducible refine cj ?_ ?_
      all_goals try first | ((intro hh; exact ⟨hh, hbx⟩)) | (intros; (repeat' apply And.intro) <;> first | assumption | ((intro hh; exact ⟨hh, hbx⟩))) | omega | exact ent (by kernel_rfl) | (intro hgd; exact absurd hgd (by decide)) | rfl | (simp only [go_sem, reduceIte, reduceCtorEq, Nat.reduceAdd, Nat.reduceMul, Nat.reduceEqDiff, Nat.reduceLT, Nat.reduceLeDiff, Nat.reduceSub, Nat.reducePow, Nat.reduceBEq, Int.reduceToNat, List.reduceReplicate, hgx, rowV]; done) | (intro _hgd; simp_all [go_sem]; done)
      refine hK11 _ _ _ ?_; clear hK11
      -- cond 3
      refine AW.cond rfl (by simp only [go_sem, reduceIte, reduceCtorEq, Nat.reduceAdd, Nat.reduceMul, Nat.reduceEqDiff, Nat.reduceLT, Nat.reduceLeDiff, Nat.reduceSub, Nat.reducePow, Nat.reduceBEq, Int.reduceToNat, List.reduceReplicate]) ?_ ?_
      · intro hb
        try simp only [hB, decide_eq_true_eq, decide_eq_false_iff_not] at hb
        refine AW.seq fun K12 hK12 => ?_
        -- region 8
        refine AW.regionK 0 (fun _ => none) [2] [] ?_
        simp only [go_sem, reduceIte, reduceCtorEq, Nat.reduceAdd, Nat.reduceMul, Nat.reduceEqDiff, Nat.reduceLT, Nat.reduceLeDiff, Nat.reduceSub, Nat.reducePow, Nat.reduceBEq, Int.reduceToNat, List.reduceReplicate]
        repeat with_reducible refine cj ?_ ?_
        all_goals try first | omega
        refine hK12 _ _ _ ?_; clear hK12
        refine AW.ret ?_
        rw [← hQl1]
        rw [← hQr]
        simp only [go_sem, reduceIte, reduceCtorEq, Nat.reduceAdd, Nat.reduceMul, Nat.reduceEqDiff, Nat.reduceLT, Nat.reduceLeDiff, Nat.reduceSub, Nat.reducePow, Nat.reduceBEq, Int.reduceToNat, List.reduceReplicate]
        exact Wk.of_eq (by rw [hva, List.any_eq_true.2 ⟨x, List.mem_of_getElem? hx, by rw [hbd]; rcases hb with hb | hb; simp [hb]; rw [hb]; simp⟩]; simp)
      · intro hb
        try simp only [hB, decide_eq_true_eq, decide_eq_false_iff_not] at hb
        refine AW.skip ?_
        refine hK10 _ _ _ ?_; clear hK10
        -- region 6
        refine AW.regionK 0 (fun _ => none) [1, 3, 4] [1] ?_
        simp only [go_sem, reduceIte, reduceCtorEq, Nat.reduceAdd, Nat.reduceMul, Nat.reduceEqDiff, Nat.reduceLT, Nat.reduceLeDiff, Nat.reduceSub, Nat.reducePow, Nat.reduceBEq, Int.reduceToNat, List.reduceReplicate]
        repeat with_reducible refine cj ?_ ?_
        all_goals try first | omega
        rw [← hQl1]
        change Exists _
        refine ⟨_, ?hm, i + 1, ?_, ?_, rfl, ?henv, ?hstore, ?hst⟩
        case henv =>
          repeat' (first | rfl | refine env_cons ?_ ?_ | refine st_cons ?_ ?_ ?_ ?_ | refine int_eq ?_ | refine bool_eq ?_ | refine rsl_eq ?_ | refine osl_eq ?_ | refine sl_eq ?_ ?_ ?_ | refine ptr_eq ?_ ?_ ?_ | refine agg_eq ?_ | refine es_cons ?_ ?_ | refine row_cons ?_ ?_)
          all_goals (first | (simp; done) | omega | (simp; omega))
        case hstore =>
          repeat' (first | rfl | refine env_cons ?_ ?_ | refine st_cons ?_ ?_ ?_ ?_ | refine int_eq ?_ | refine bool_eq ?_ | refine rsl_eq ?_ | refine osl_eq ?_ | refine sl_eq ?_ ?_ ?_ | refine ptr_eq ?_ ?_ ?_ | refine agg_eq ?_ | refine es_cons ?_ ?_ | refine row_cons ?_ ?_)
          all_goals (first | (simp; done) | omega | (simp; omega))
        case hst =>
          exact ⟨by omega, by rw [hats, hall, hbd]; simp [hb.2]; omega⟩
        case hm => omega
    · intro hb
      try simp only [hB, decide_eq_true_eq, decide_eq_false_iff_not] at hb
      refine AW.keep [] [] ?_
      try simp only [go_sem, reduceIte, reduceCtorEq, Nat.reduceAdd, Nat.reduceMul, Nat.reduceEqDiff, Nat.reduceLT, Nat.reduceLeDiff, Nat.reduceSub, Nat.reducePow, Nat.reduceBEq, Int.reduceToNat, List.reduceReplicate]
      refine AW.exit ?_
      rw [← hQl1]
      refine hK6 _ _ _ ?_; clear hK6
      refine AW.seq fun K13 hK13 => ?_
      -- region 9
      refine AW.regionK 0 (fun _ => none) [2] [] ?_
      simp only [go_sem, reduceIte, reduceCtorEq, Nat.reduceAdd, Nat.reduceMul, Nat.reduceEqDiff, Nat.reduceLT, Nat.reduceLeDiff, Nat.reduceSub, Nat.reducePow, Nat.reduceBEq, Int.reduceToNat, List.reduceReplicate]
      repeat with_reducible refine cj ?_ ?_
      all_goals try first | omega
      refine hK13 _ _ _ ?_; clear hK13
      refine AW.ret ?_
      rw [← hQr]
      simp only [go_sem, reduceIte, reduceCtorEq, Nat.reduceAdd, Nat.reduceMul, Nat.reduceEqDiff, Nat.reduceLT, Nat.reduceLeDiff, Nat.reduceSub, Nat.reducePow, Nat.reduceBEq, Int.reduceToNat, List.reduceReplicate]
      exact Wk.of_eq (by rw [List.take_of_length_le (by omega)] at hall; rw [hva, hall, decide_eq_true h512]; rfl)
theorem rpvalid_g (n : Nat) (t : List (List Bool)) (hs : Sq n t) (hn : n ≤ 512) : Reads Tryd.prog 15 false [relB t] (.bool (poB n t)) := by
  have hfm := rformed_r (t.map SB) ⟨by simp [hs.len]; omega, fun x hx => by
    obtain ⟨b, hb, rfl⟩ := List.mem_map.1 hx
    have := setB_len (b := b) (by rw [hs.row b hb]; exact hn)
    show (setW b b.length).length ≤ _; omega⟩ (fun x hx => by obtain ⟨b, hb, rfl⟩ := List.mem_map.1 hx; exact setW_ok b)
  rw [valid_tab hs hn, ← relB_SB] at hfm
  have hlt : (tabR t).length = n := by rw [tabR_len, hs.len]
  have hls := rless_r n t hs hn
  have hgr := fun i hi => tabR_get (t := t) (i := i) hi
  have hsu := fun i j hi hj => rsub_r (rowT t j) (rowT t i) (by rw [hs.rowLen (i := j) hj]; exact hn) (by rw [hs.rowLen (i := i) hi, hs.rowLen (i := j) hj])
  have hlen := hs.len
  have hno : ∀ i, i < n → atT t i i = true → poB n t = false := fun i hi h => by
    cases e : poB n t
    · rfl
    · have := ((poB_iff hs).1 e).irr i hi; rw [h] at this; cases this
  have hno2 : ∀ i j, i < n → j < n → atT t i j = true → subB (rowT t j) (rowT t i) = false → poB n t = false := fun i j hi hj h h2 => poB_false i j hi (memB_mem.2 ⟨by rw [hs.rowLen hi]; exact hj, h⟩) (.inr h2)
  have hyes : (∀ a, a < n → atT t a a = false ∧ ∀ b, b < n → atT t a b = true → subB (rowT t b) (rowT t a) = true) → poB n t = true := fun h => (poB_iff hs).2 ⟨fun i hi => (h i hi).1, fun i j k hi hj hk h1 h2 => subB_iff.1 ((h i hi).2 j hj h1) k (by rw [hs.rowLen hj]; exact hk) h2⟩
  unfold relB rowB at *
  refine Reads.body (rs := [.tmp 2]) Tryd.func15 rfl Tryd.ntmps15 rfl (by simp) ?_
  generalize hQr : retQ _ _ _ = Qr
  refine AW.seq fun K1 hK1 => ?_
  -- region 0
  refine AW.regionK 0 (fun _ => none) [1] [1] ?_
  simp only [go_sem, reduceIte, reduceCtorEq, Nat.reduceAdd, Nat.reduceMul, Nat.reduceEqDiff, Nat.reduceLT, Nat.reduceLeDiff, Nat.reduceSub, Nat.reducePow, Nat.reduceBEq, Int.reduceToNat, List.reduceReplicate, hlt]
  repeat with_reducible refine cj ?_ ?_
  all_goals try first | omega
  refine hK1 _ _ _ ?_; clear hK1
  refine AW.seq fun K2 hK2 => ?_
  -- region 1
  refine AW.regionK 0 (fun _ => none) [1, 3] [1] ?_
  simp only [go_sem, reduceIte, reduceCtorEq, Nat.reduceAdd, Nat.reduceMul, Nat.reduceEqDiff, Nat.reduceLT, Nat.reduceLeDiff, Nat.reduceSub, Nat.reducePow, Nat.reduceBEq, Int.reduceToNat, List.reduceReplicate, hlt]
  repeat with_reducible refine cj ?_ ?_
  all_goals try first | omega
  refine hK2 _ _ _ ?_; clear hK2
  refine AW.seq fun K3 hK3 => ?_
  refine AW.seq fun K4 hK4 => ?_
  -- region 2
  refine AW.regionK 0 (fun ii => if ii = 1 then some (.reads false (.bool true)) else none) [1, 3, 11] [1] ?_
  simp only [go_sem, reduceIte, reduceCtorEq, Nat.reduceAdd, Nat.reduceMul, Nat.reduceEqDiff, Nat.reduceLT, Nat.reduceLeDiff, Nat.reduceSub, Nat.reducePow, Nat.reduceBEq, Int.reduceToNat, List.reduceReplicate, hlt]
  repeat with_reducible refine cj ?_ ?_
  all_goals try first | (exact hfm) | omega | exact ent (by kernel_rfl)
  refine hK4 _ _ _ ?_; clear hK4
  -- cond 1
  refine AW.cond rfl (by simp only [go_sem, reduceIte, reduceCtorEq, Nat.reduceAdd, Nat.reduceMul, Nat.reduceEqDiff, Nat.reduceLT, Nat.reduceLeDiff, Nat.reduceSub, Nat.reducePow, Nat.reduceBEq, Int.reduceToNat, List.reduceReplicate]) ?_ ?_
  · intro hb
    try simp only [hB, decide_eq_true_eq, decide_eq_false_iff_not] at hb
    simp at hb
  · intro hb
    try simp only [hB, decide_eq_true_eq, decide_eq_false_iff_not] at hb
    refine AW.skip ?_
    refine hK3 _ _ _ ?_; clear hK3
    refine AW.seq fun K5 hK5 => ?_
    refine AW.seq fun K6 hK6 => ?_
    -- region 4
    refine AW.regionK 0 (fun _ => none) [1, 3, 4] [1] ?_
    simp only [go_sem, reduceIte, reduceCtorEq, Nat.reduceAdd, Nat.reduceMul, Nat.reduceEqDiff, Nat.reduceLT, Nat.reduceLeDiff, Nat.reduceSub, Nat.reducePow, Nat.reduceBEq, Int.reduceToNat, List.reduceReplicate, hlt]
    repeat with_reducible refine cj ?_ ?_
    all_goals try first | omega
    refine hK6 _ _ _ ?_; clear hK6
    refine AW.block ?_
    -- loop 1
    refine AW.loopE (fun mm ee ss kk => ∃ (i g1 v1 : Nat), n - i = mm ∧ ee = [(1, .ptr ⟨1, g1, none⟩ 0 0), (3, .int .i64 n), (4, .int .i64 (i : Nat))] ∧ ss = [(1, some ⟨g1, v1, 1, [[.rsl 2 (tabR t)]]⟩)] ∧ (i ≤ n ∧ ∀ a, a < i → atT t a a = false ∧ ∀ b, b < n → atT t a b = true → subB (rowT t b) (rowT t a) = true)) ?_ ?_
    · refine ⟨_, 0, ?_, ?_, rfl, ?henv, ?hstore, ?hst⟩
      case henv =>
        repeat' (first | rfl | refine env_cons ?_ ?_ | refine st_cons ?_ ?_ ?_ ?_ | refine int_eq ?_ | refine bool_eq ?_ | refine rsl_eq ?_ | refine osl_eq ?_ | refine sl_eq ?_ ?_ ?_ | refine ptr_eq ?_ ?_ ?_ | refine agg_eq ?_ | refine es_cons ?_ ?_ | refine row_cons ?_ ?_)
        all_goals (first | (simp; done) | omega | (simp; omega))
      case hstore =>
        repeat' (first | rfl | refine env_cons ?_ ?_ | refine st_cons ?_ ?_ ?_ ?_ | refine int_eq ?_ | refine bool_eq ?_ | refine rsl_eq ?_ | refine osl_eq ?_ | refine sl_eq ?_ ?_ ?_ | refine ptr_eq ?_ ?_ ?_ | refine agg_eq ?_ | refine es_cons ?_ ?_ | refine row_cons ?_ ?_)
        all_goals (first | (simp; done) | omega | (simp; omega))
      case hst =>
        exact ⟨Nat.zero_le _, fun a ha => absurd ha (Nat.not_lt_zero _)⟩
    rintro mm ee ss kk ⟨i, g1, v1, rfl, rfl, rfl, hI⟩
    generalize hQl1 : thenQ _ _ = Ql1
    obtain ⟨hi, hall⟩ := hI
    refine AW.seq fun K7 hK7 => ?_
    refine AW.seq fun K8 hK8 => ?_
    -- region 5
    refine AW.regionK 0 (fun _ => none) [1, 3, 4, 14] [1] ?_
    simp only [go_sem, reduceIte, reduceCtorEq, Nat.reduceAdd, Nat.reduceMul, Nat.reduceEqDiff, Nat.reduceLT, Nat.reduceLeDiff, Nat.reduceSub, Nat.reducePow, Nat.reduceBEq, Int.reduceToNat, List.reduceReplicate, hlt]
    repeat with_reducible refine cj ?_ ?_
    all_goals try first | omega
    refine hK8 _ _ _ ?_; clear hK8
    -- cond 2
    refine AW.cond rfl (by simp only [go_sem, reduceIte, reduceCtorEq, Nat.reduceAdd, Nat.reduceMul, Nat.reduceEqDiff, Nat.reduceLT, Nat.reduceLeDiff, Nat.reduceSub, Nat.reducePow, Nat.reduceBEq, Int.reduceToNat, List.reduceReplicate]) ?_ ?_
    · intro hb
      try simp only [hB, decide_eq_true_eq, decide_eq_false_iff_not] at hb
      have hl1 := hls i i (by omega) (by omega)
      have hgi := hgr i (by omega)
      refine AW.skip ?_
      refine hK7 _ _ _ ?_; clear hK7
      refine AW.seq fun K9 hK9 => ?_
      refine AW.block ?_
      refine AW.seq fun K10 hK10 => ?_
      refine AW.seq fun K11 hK11 => ?_
      -- region 7
      refine AW.regionK 0 (fun ii => if ii = 3 then some (.reads false (.bool (atT t i i))) else none) [1, 3, 4, 20] [1] ?_
      simp only [go_sem, reduceIte, reduceCtorEq, Nat.reduceAdd, Nat.reduceMul, Nat.reduceEqDiff, Nat.reduceLT, Nat.reduceLeDiff, Nat.reduceSub, Nat.reducePow, Nat.reduceBEq, Int.reduceToNat, List.reduceReplicate, hlt]
      repeat with_reducible refine cj ?_ ?_
      all_goals try first | (exact hl1) | omega | exact ent (by kernel_rfl)
      refine hK11 _ _ _ ?_; clear hK11
      -- cond 3
      refine AW.cond rfl (by simp only [go_sem, reduceIte, reduceCtorEq, Nat.reduceAdd, Nat.reduceMul, Nat.reduceEqDiff, Nat.reduceLT, Nat.reduceLeDiff, Nat.reduceSub, Nat.reducePow, Nat.reduceBEq, Int.reduceToNat, List.reduceReplicate]) ?_ ?_
      · intro hb
        try simp only [hB, decide_eq_true_eq, decide_eq_false_iff_not] at hb
        refine AW.seq fun K12 hK12 => ?_
        -- region 8
        refine AW.regionK 0 (fun _ => none) [2] [] ?_
        simp only [go_sem, reduceIte, reduceCtorEq, Nat.reduceAdd, Nat.reduceMul, Nat.reduceEqDiff, Nat.reduceLT, Nat.reduceLeDiff, Nat.reduceSub, Nat.reducePow, Nat.reduceBEq, Int.reduceToNat, List.reduceReplicate, hlt]
        repeat with_reducible refine cj ?_ ?_
        all_goals try first | omega
        refine hK12 _ _ _ ?_; clear hK12
        refine AW.ret ?_
        rw [← hQl1]
        rw [← hQr]
        simp only [go_sem, reduceIte, reduceCtorEq, Nat.reduceAdd, Nat.reduceMul, Nat.reduceEqDiff, Nat.reduceLT, Nat.reduceLeDiff, Nat.reduceSub, Nat.reducePow, Nat.reduceBEq, Int.reduceToNat, List.reduceReplicate, hlt]
        exact Wk.of_eq (by rw [hno i (by omega) hb])
      · intro hb
        try simp only [hB, decide_eq_true_eq, decide_eq_false_iff_not] at hb
        have hir := hb
        refine AW.skip ?_
        refine hK10 _ _ _ ?_; clear hK10
        refine AW.seq fun K13 hK13 => ?_
        -- region 9
        refine AW.regionK 0 (fun _ => none) [1, 3, 4, 5] [1] ?_
        simp only [go_sem, reduceIte, reduceCtorEq, Nat.reduceAdd, Nat.reduceMul, Nat.reduceEqDiff, Nat.reduceLT, Nat.reduceLeDiff, Nat.reduceSub, Nat.reducePow, Nat.reduceBEq, Int.reduceToNat, List.reduceReplicate, hlt]
        repeat with_reducible refine cj ?_ ?_
        all_goals try first | omega
        refine hK13 _ _ _ ?_; clear hK13
        refine AW.block ?_
        -- loop 2
        refine AW.loopE (fun mm ee ss kk => ∃ (j g1 v1 : Nat), n - j = mm ∧ ee = [(1, .ptr ⟨1, g1, none⟩ 0 0), (3, .int .i64 n), (4, .int .i64 (i : Nat)), (5, .int .i64 (j : Nat))] ∧ ss = [(1, some ⟨g1, v1, 1, [[.rsl 2 (tabR t)]]⟩)] ∧ (j ≤ n ∧ ∀ b, b < j → atT t i b = true → subB (rowT t b) (rowT t i) = true)) ?_ ?_
        · refine ⟨_, 0, ?_, ?_, rfl, ?henv, ?hstore, ?hst⟩
          case henv =>
            repeat' (first | rfl | refine env_cons ?_ ?_ | refine st_cons ?_ ?_ ?_ ?_ | refine int_eq ?_ | refine bool_eq ?_ | refine rsl_eq ?_ | refine osl_eq ?_ | refine sl_eq ?_ ?_ ?_ | refine ptr_eq ?_ ?_ ?_ | refine agg_eq ?_ | refine es_cons ?_ ?_ | refine row_cons ?_ ?_)
            all_goals (first | (simp; done) | omega | (simp; omega))
          case hstore =>
            repeat' (first | rfl | refine env_cons ?_ ?_ | refine st_cons ?_ ?_ ?_ ?_ | refine int_eq ?_ | refine bool_eq ?_ | refine rsl_eq ?_ | refine osl_eq ?_ | refine sl_eq ?_ ?_ ?_ | refine ptr_eq ?_ ?_ ?_ | refine agg_eq ?_ | refine es_cons ?_ ?_ | refine row_cons ?_ ?_)
            all_goals (first | (simp; done) | omega | (simp; omega))
          case hst =>
            exact ⟨Nat.zero_le _, fun a ha => absurd ha (Nat.not_lt_zero _)⟩
        rintro mm ee ss kk ⟨j, g1, v1, rfl, rfl, rfl, hI⟩
        generalize hQl2 : thenQ _ _ = Ql2
        obtain ⟨hj, hallj⟩ := hI
        refine AW.seq fun K14 hK14 => ?_
        refine AW.seq fun K15 hK15 => ?_
        -- region 10
        refine AW.regionK 0 (fun _ => none) [1, 3, 4, 5, 23] [1] ?_
        simp only [go_sem, reduceIte, reduceCtorEq, Nat.reduceAdd, Nat.reduceMul, Nat.reduceEqDiff, Nat.reduceLT, Nat.reduceLeDiff, Nat.reduceSub, Nat.reducePow, Nat.reduceBEq, Int.reduceToNat, List.reduceReplicate, hlt]
        repeat with_reducible refine cj ?_ ?_
        all_goals try first | omega
        refine hK15 _ _ _ ?_; clear hK15
        -- cond 4
        refine AW.cond rfl (by simp only [go_sem, reduceIte, reduceCtorEq, Nat.reduceAdd, Nat.reduceMul, Nat.reduceEqDiff, Nat.reduceLT, Nat.reduceLeDiff, Nat.reduceSub, Nat.reducePow, Nat.reduceBEq, Int.reduceToNat, List.reduceReplicate]) ?_ ?_
        · intro hb
          try simp only [hB, decide_eq_true_eq, decide_eq_false_iff_not] at hb
          have hl2 := hls i j (by omega) (by omega)
          have hgj := hgr j (by omega)
          have hsj := hsu i j (by omega) (by omega)
          refine AW.skip ?_
          refine hK14 _ _ _ ?_; clear hK14
          refine AW.seq fun K16 hK16 => ?_
          refine AW.block ?_
          refine AW.seq fun K17 hK17 => ?_
          -- region 12
          refine AW.regionD mixed 0 (fun ii => if ii = 3 then some (.reads false (.bool (atT t i j))) else if ii = 15 then some (.reads false (.bool (subB (rowT t j) (rowT t i)))) else none) [1, 3, 4, 5, 43] [1] ?_
          simp only [go_sem, reduceIte, reduceCtorEq, Nat.reduceAdd, Nat.reduceMul, Nat.reduceEqDiff, Nat.reduceLT, Nat.reduceLeDiff, Nat.reduceSub, Nat.reducePow, Nat.reduceBEq, Int.reduceToNat, List.reduceReplicate, hlt, hgi, hgj]
          repeat with_reducible refine cj ?_ ?_
          all_goals try first | (first | exact hl2 | (intro hh; exact hsj) | (intro hh; exact ⟨hh, rfl, hsj⟩) | (intro hh; exact ⟨hh, hsj⟩)) | (intros; (repeat' apply And.intro) <;> first | assumption | (first | exact hl2 | (intro hh; exact hsj) | (intro hh; exact ⟨hh, rfl, hsj⟩) | (intro hh; exact ⟨hh, hsj⟩))) | omega | exact chk (by kernel_rfl) | exact ent (by kernel_rfl) | (intro hgd; exact absurd hgd (by decide)) | rfl | (simp only [go_sem, reduceIte, reduceCtorEq, Nat.reduceAdd, Nat.reduceMul, Nat.reduceEqDiff, Nat.reduceLT, Nat.reduceLeDiff, Nat.reduceSub, Nat.reducePow, Nat.reduceBEq, Int.reduceToNat, List.reduceReplicate, hlt, hgi, hgj]; done) | (intro _hgd; simp_all [go_sem]; done)
          refine hK17 _ _ _ ?_; clear hK17
          -- cond 5
          refine AW.cond rfl (by simp only [go_sem, reduceIte, reduceCtorEq, Nat.reduceAdd, Nat.reduceMul, Nat.reduceEqDiff, Nat.reduceLT, Nat.reduceLeDiff, Nat.reduceSub, Nat.reducePow, Nat.reduceBEq, Int.reduceToNat, List.reduceReplicate]) ?_ ?_
          · intro hb
            try simp only [hB, decide_eq_true_eq, decide_eq_false_iff_not] at hb
            refine AW.seq fun K18 hK18 => ?_
            -- region 13
            refine AW.regionK 0 (fun _ => none) [2] [] ?_
            simp only [go_sem, reduceIte, reduceCtorEq, Nat.reduceAdd, Nat.reduceMul, Nat.reduceEqDiff, Nat.reduceLT, Nat.reduceLeDiff, Nat.reduceSub, Nat.reducePow, Nat.reduceBEq, Int.reduceToNat, List.reduceReplicate, hlt]
            repeat with_reducible refine cj ?_ ?_
            all_goals try first | omega
            refine hK18 _ _ _ ?_; clear hK18
            refine AW.ret ?_
            rw [← hQl2]
            rw [← hQl1]
            rw [← hQr]
            simp only [go_sem, reduceIte, reduceCtorEq, Nat.reduceAdd, Nat.reduceMul, Nat.reduceEqDiff, Nat.reduceLT, Nat.reduceLeDiff, Nat.reduceSub, Nat.reducePow, Nat.reduceBEq, Int.reduceToNat, List.reduceReplicate, hlt]
            exact Wk.of_eq (by rw [hno2 i j (by omega) (by omega) hb.1 hb.2])
          · intro hb
            try simp only [hB, decide_eq_true_eq, decide_eq_false_iff_not] at hb
            refine AW.skip ?_
            refine hK16 _ _ _ ?_; clear hK16
            -- region 11
            refine AW.regionK 0 (fun _ => none) [1, 3, 4, 5] [1] ?_
            simp only [go_sem, reduceIte, reduceCtorEq, Nat.reduceAdd, Nat.reduceMul, Nat.reduceEqDiff, Nat.reduceLT, Nat.reduceLeDiff, Nat.reduceSub, Nat.reducePow, Nat.reduceBEq, Int.reduceToNat, List.reduceReplicate, hlt]
            repeat with_reducible refine cj ?_ ?_
            all_goals try first | omega
            rw [← hQl2]
            change Exists _
            refine ⟨_, ?hm, j + 1, ?_, ?_, rfl, ?henv, ?hstore, ?hst⟩
            case henv =>
              repeat' (first | rfl | refine env_cons ?_ ?_ | refine st_cons ?_ ?_ ?_ ?_ | refine int_eq ?_ | refine bool_eq ?_ | refine rsl_eq ?_ | refine osl_eq ?_ | refine sl_eq ?_ ?_ ?_ | refine ptr_eq ?_ ?_ ?_ | refine agg_eq ?_ | refine es_cons ?_ ?_ | refine row_cons ?_ ?_)
              all_goals (first | (simp; done) | omega | (simp; omega))
            case hstore =>
              repeat' (first | rfl | refine env_cons ?_ ?_ | refine st_cons ?_ ?_ ?_ ?_ | refine int_eq ?_ | refine bool_eq ?_ | refine rsl_eq ?_ | refine osl_eq ?_ | refine sl_eq ?_ ?_ ?_ | refine ptr_eq ?_ ?_ ?_ | refine agg_eq ?_ | refine es_cons ?_ ?_ | refine row_cons ?_ ?_)
              all_goals (first | (simp; done) | omega | (simp; omega))
            case hst =>
              refine ⟨by omega, fun b hbj hab => ?_⟩
              by_cases e : b = j
              · subst e; rcases hb with hb | hb
                · rw [hb] at hab; cases hab
                · exact hb
              · exact hallj b (by omega) hab
            case hm => omega
        · intro hb
          try simp only [hB, decide_eq_true_eq, decide_eq_false_iff_not] at hb
          refine AW.keep [1, 3, 4] [1] ?_
          try simp only [go_sem, reduceIte, reduceCtorEq, Nat.reduceAdd, Nat.reduceMul, Nat.reduceEqDiff, Nat.reduceLT, Nat.reduceLeDiff, Nat.reduceSub, Nat.reducePow, Nat.reduceBEq, Int.reduceToNat, List.reduceReplicate]
          refine AW.exit ?_
          rw [← hQl2]
          refine hK9 _ _ _ ?_; clear hK9
          -- region 6
          refine AW.regionK 0 (fun _ => none) [1, 3, 4] [1] ?_
          simp only [go_sem, reduceIte, reduceCtorEq, Nat.reduceAdd, Nat.reduceMul, Nat.reduceEqDiff, Nat.reduceLT, Nat.reduceLeDiff, Nat.reduceSub, Nat.reducePow, Nat.reduceBEq, Int.reduceToNat, List.reduceReplicate, hlt]
          repeat with_reducible refine cj ?_ ?_
          all_goals try first | omega
          rw [← hQl1]
          change Exists _
          refine ⟨_, ?hm, i + 1, ?_, ?_, rfl, ?henv, ?hstore, ?hst⟩
          case henv =>
            repeat' (first | rfl | refine env_cons ?_ ?_ | refine st_cons ?_ ?_ ?_ ?_ | refine int_eq ?_ | refine bool_eq ?_ | refine rsl_eq ?_ | refine osl_eq ?_ | refine sl_eq ?_ ?_ ?_ | refine ptr_eq ?_ ?_ ?_ | refine agg_eq ?_ | refine es_cons ?_ ?_ | refine row_cons ?_ ?_)
            all_goals (first | (simp; done) | omega | (simp; omega))
          case hstore =>
            repeat' (first | rfl | refine env_cons ?_ ?_ | refine st_cons ?_ ?_ ?_ ?_ | refine int_eq ?_ | refine bool_eq ?_ | refine rsl_eq ?_ | refine osl_eq ?_ | refine sl_eq ?_ ?_ ?_ | refine ptr_eq ?_ ?_ ?_ | refine agg_eq ?_ | refine es_cons ?_ ?_ | refine row_cons ?_ ?_)
            all_goals (first | (simp; done) | omega | (simp; omega))
          case hst =>
            refine ⟨by omega, fun a ha => ?_⟩
            by_cases e : a = i
            · subst e; exact ⟨hir, fun b hb2 => hallj b (by omega)⟩
            · exact hall a (by omega)
          case hm => omega
    · intro hb
      try simp only [hB, decide_eq_true_eq, decide_eq_false_iff_not] at hb
      refine AW.keep [] [] ?_
      try simp only [go_sem, reduceIte, reduceCtorEq, Nat.reduceAdd, Nat.reduceMul, Nat.reduceEqDiff, Nat.reduceLT, Nat.reduceLeDiff, Nat.reduceSub, Nat.reducePow, Nat.reduceBEq, Int.reduceToNat, List.reduceReplicate]
      refine AW.exit ?_
      rw [← hQl1]
      refine hK5 _ _ _ ?_; clear hK5
      refine AW.seq fun K19 hK19 => ?_
      -- region 14
      refine AW.regionK 0 (fun _ => none) [2] [] ?_
      simp only [go_sem, reduceIte, reduceCtorEq, Nat.reduceAdd, Nat.reduceMul, Nat.reduceEqDiff, Nat.reduceLT, Nat.reduceLeDiff, Nat.reduceSub, Nat.reducePow, Nat.reduceBEq, Int.reduceToNat, List.reduceReplicate, hlt]
      repeat with_reducible refine cj ?_ ?_
      all_goals try first | omega
      refine hK19 _ _ _ ?_; clear hK19
      refine AW.ret ?_
      rw [← hQr]
      simp only [go_sem, reduceIte, reduceCtorEq, Nat.reduceAdd, Nat.reduceMul, Nat.reduceEqDiff, Nat.reduceLT, Nat.reduceLeDiff, Nat.reduceSub, Nat.reducePow, Nat.reduceBEq, Int.reduceToNat, List.reduceReplicate, hlt]
      exact Wk.of_eq (by rw [hyes fun a ha => hall a (by omega)])
theorem rpvalid_e (rs : List USet) (hl : longR rs) (hok : ∀ x ∈ rs, okW x.W) (hv : validR rs = false) : Reads Tryd.prog 15 false [relV rs] (.bool false) := by
  have h := rformed_r rs hl hok
  have hl1 := hl.1
  rw [hv] at h
  unfold relV at *
  refine Reads.body (rs := [.tmp 2]) Tryd.func15 rfl Tryd.ntmps15 rfl (by simp) ?_
  generalize hQr : retQ _ _ _ = Qr
  refine AW.seq fun K1 hK1 => ?_
  -- region 0
  refine AW.regionK 0 (fun _ => none) [1] [1] ?_
  simp only [go_sem, reduceIte, reduceCtorEq, Nat.reduceAdd, Nat.reduceMul, Nat.reduceEqDiff, Nat.reduceLT, Nat.reduceLeDiff, Nat.reduceSub, Nat.reducePow, Nat.reduceBEq, Int.reduceToNat, List.reduceReplicate]
  repeat with_reducible refine cj ?_ ?_
  all_goals try first | omega
  refine hK1 _ _ _ ?_; clear hK1
  refine AW.seq fun K2 hK2 => ?_
  -- region 1
  refine AW.regionK 0 (fun _ => none) [1, 3] [1] ?_
  simp only [go_sem, reduceIte, reduceCtorEq, Nat.reduceAdd, Nat.reduceMul, Nat.reduceEqDiff, Nat.reduceLT, Nat.reduceLeDiff, Nat.reduceSub, Nat.reducePow, Nat.reduceBEq, Int.reduceToNat, List.reduceReplicate]
  repeat with_reducible refine cj ?_ ?_
  all_goals try first | omega
  refine hK2 _ _ _ ?_; clear hK2
  refine AW.seq fun K3 hK3 => ?_
  refine AW.seq fun K4 hK4 => ?_
  -- region 2
  refine AW.regionK 0 (fun ii => if ii = 1 then some (.reads false (.bool false)) else none) [1, 3, 11] [1] ?_
  simp only [go_sem, reduceIte, reduceCtorEq, Nat.reduceAdd, Nat.reduceMul, Nat.reduceEqDiff, Nat.reduceLT, Nat.reduceLeDiff, Nat.reduceSub, Nat.reducePow, Nat.reduceBEq, Int.reduceToNat, List.reduceReplicate]
  repeat with_reducible refine cj ?_ ?_
  all_goals try first | (exact h) | omega | exact ent (by kernel_rfl)
  refine hK4 _ _ _ ?_; clear hK4
  -- cond 1
  refine AW.cond rfl (by simp only [go_sem, reduceIte, reduceCtorEq, Nat.reduceAdd, Nat.reduceMul, Nat.reduceEqDiff, Nat.reduceLT, Nat.reduceLeDiff, Nat.reduceSub, Nat.reducePow, Nat.reduceBEq, Int.reduceToNat, List.reduceReplicate]) ?_ ?_
  · intro hb
    try simp only [hB, decide_eq_true_eq, decide_eq_false_iff_not] at hb
    refine AW.seq fun K5 hK5 => ?_
    -- region 3
    refine AW.regionK 0 (fun _ => none) [2] [] ?_
    simp only [go_sem, reduceIte, reduceCtorEq, Nat.reduceAdd, Nat.reduceMul, Nat.reduceEqDiff, Nat.reduceLT, Nat.reduceLeDiff, Nat.reduceSub, Nat.reducePow, Nat.reduceBEq, Int.reduceToNat, List.reduceReplicate]
    repeat with_reducible refine cj ?_ ?_
    all_goals try first | omega
    refine hK5 _ _ _ ?_; clear hK5
    refine AW.ret ?_
    rw [← hQr]
    simp only [go_sem, reduceIte, reduceCtorEq, Nat.reduceAdd, Nat.reduceMul, Nat.reduceEqDiff, Nat.reduceLT, Nat.reduceLeDiff, Nat.reduceSub, Nat.reducePow, Nat.reduceBEq, Int.reduceToNat, List.reduceReplicate]
    exact Wk.refl _
  · intro hb
    try simp only [hB, decide_eq_true_eq, decide_eq_false_iff_not] at hb
    simp at hb
end Go.Proofs.P

namespace Go.Proofs.P
open Go.AM Go
set_option maxRecDepth 100000
set_option maxHeartbeats 2000000
theorem rempty6_u (n : Nat) (hn : n ≤ 512) : Upd Tryd.prog 51 [] [.int .i64 n] (fun k => .agg [.sl ⟨0, k, none⟩ 0 n none]) (fun k => [(0, some ⟨k, k, 2, tabO (zeroT n)⟩)]) := by
  have hwn := wordsN_rng (n := (n : Int)) (by omega)
  have he := rempty2_u n hn
  have hro : rowO (List.replicate n false) = [.int .i64 n, .osl 1 (words (setW (List.replicate n false) n))] := by unfold rowO; simp only [List.length_replicate]
  have hwl : (setW (List.replicate n false) n).length = (wordsN n).toNat := by have := setW_len' (List.replicate n false); rw [List.length_replicate] at this; exact this
  have hzt : zeroT n = List.replicate n (List.replicate n false) := rfl
  rw [hzt]
  refine Upd.of_body (rs := [.cell 2 24]) Tryd.func51 rfl Tryd.ntmps51 rfl (by simp) ?_
  intro k0 k hk0 hk1
  generalize hQr : retQ _ _ _ = Qr
  refine AW.seq fun K1 hK1 => ?_
  -- region 0
  refine AW.regionK 100 (fun _ => none) [0, 2] [102] ?_
  simp only [go_sem, reduceIte, reduceCtorEq, Nat.reduceAdd, Nat.reduceMul, Nat.reduceEqDiff, Nat.reduceLT, Nat.reduceLeDiff, Nat.reduceSub, Nat.reducePow, Nat.reduceBEq, Int.reduceToNat, List.reduceReplicate]
  repeat with_reducible refine cj ?_ ?_
  all_goals try first | omega
  refine hK1 _ _ _ ?_; clear hK1
  refine AW.seq fun K2 hK2 => ?_
  -- region 1
  refine AW.regionK 100 (fun _ => none) [0, 2, 3] [102, 103] ?_
  simp only [go_sem, reduceIte, reduceCtorEq, Nat.reduceAdd, Nat.reduceMul, Nat.reduceEqDiff, Nat.reduceLT, Nat.reduceLeDiff, Nat.reduceSub, Nat.reducePow, Nat.reduceBEq, Int.reduceToNat, List.reduceReplicate]
  repeat with_reducible refine cj ?_ ?_
  all_goals try first | omega
  refine hK2 _ _ _ ?_; clear hK2
  refine AW.seq fun K3 hK3 => ?_
  refine AW.seq fun K4 hK4 => ?_
  -- region 2
  refine AW.regionK 100 (fun _ => none) [0, 2, 3, 4] [102, 103] ?_
  simp only [go_sem, reduceIte, reduceCtorEq, Nat.reduceAdd, Nat.reduceMul, Nat.reduceEqDiff, Nat.reduceLT, Nat.reduceLeDiff, Nat.reduceSub, Nat.reducePow, Nat.reduceBEq, Int.reduceToNat, List.reduceReplicate]
  repeat with_reducible refine cj ?_ ?_
  all_goals try first | omega
  refine hK4 _ _ _ ?_; clear hK4
  refine AW.block ?_
  refine AW.nilCellK 103 0 0 200 2 ?_
  simp only [go_sem, reduceIte, Nat.reduceEqDiff]
  repeat refine cj ?_ ?_
  rotate_left
  · decide
  · decide
  · decide
  refine AW.keep [0, 2, 3, 4] [102, 103, 200] ?_
  simp only [go_sem, reduceIte, Nat.reduceEqDiff]
  -- loop 1
  refine AW.loopE (fun mm ee ss kk => ∃ (j g2 v2 g3 v3 g v : Nat), n - j = mm ∧ ee = [(0, .int .i64 n), (2, .ptr ⟨102, g2, none⟩ 0 0), (3, .ptr ⟨103, g3, none⟩ 0 0), (4, .int .i64 (j : Nat))] ∧ ss = [(102, some ⟨g2, v2, 1, [[.nilsl]]⟩), (103, some ⟨g3, v3, 1, [[.sl ⟨200, g, none⟩ 0 j none]]⟩), (200, some ⟨g, v, 2, tabO (List.replicate j (List.replicate n false))⟩)] ∧ (j ≤ n)) ?_ ?_
  · refine ⟨_, 0, ?_, ?_, ?_, ?_, ?_, ?_, rfl, ?henv, ?hstore, ?hst⟩
    case henv =>
      repeat' (first | rfl | refine env_cons ?_ ?_ | refine st_cons ?_ ?_ ?_ ?_ | refine int_eq ?_ | refine bool_eq ?_ | refine rsl_eq ?_ | refine osl_eq ?_ | refine sl_eq ?_ ?_ ?_ | refine ptr_eq ?_ ?_ ?_ | refine agg_eq ?_ | refine es_cons ?_ ?_ | refine row_cons ?_ ?_)
      all_goals (first | (simp; done) | omega | (simp; omega))
    case hstore =>
      repeat' (first | rfl | refine env_cons ?_ ?_ | refine st_cons ?_ ?_ ?_ ?_ | refine int_eq ?_ | refine bool_eq ?_ | refine rsl_eq ?_ | refine osl_eq ?_ | refine sl_eq ?_ ?_ ?_ | refine ptr_eq ?_ ?_ ?_ | refine agg_eq ?_ | refine es_cons ?_ ?_ | refine row_cons ?_ ?_)
      all_goals (first | (simp; done) | omega | (simp; omega))
    case hst =>
      first | trivial | omega | (simp; done) | (simp; omega)
  rintro mm ee ss kk ⟨j, g2, v2, g3, v3, g, v, rfl, rfl, rfl, hI⟩
  generalize hQl1 : thenQ _ _ = Ql1
  refine AW.seq fun K5 hK5 => ?_
  refine AW.seq fun K6 hK6 => ?_
  -- region 3
  refine AW.regionK 100 (fun _ => none) [0, 2, 3, 4, 8] [102, 103, 200] ?_
  simp only [go_sem, reduceIte, reduceCtorEq, Nat.reduceAdd, Nat.reduceMul, Nat.reduceEqDiff, Nat.reduceLT, Nat.reduceLeDiff, Nat.reduceSub, Nat.reducePow, Nat.reduceBEq, Int.reduceToNat, List.reduceReplicate]
  repeat with_reducible refine cj ?_ ?_
  all_goals try first | omega
  refine hK6 _ _ _ ?_; clear hK6
  -- cond 1
  refine AW.cond rfl (by simp only [go_sem, reduceIte, reduceCtorEq, Nat.reduceAdd, Nat.reduceMul, Nat.reduceEqDiff, Nat.reduceLT, Nat.reduceLeDiff, Nat.reduceSub, Nat.reducePow, Nat.reduceBEq, Int.reduceToNat, List.reduceReplicate]) ?_ ?_
  · intro hb
    try simp only [hB, decide_eq_true_eq, decide_eq_false_iff_not] at hb
    have htl : (List.replicate j (List.replicate n false)).length = j := by simp
    have htk : (tabO (List.replicate j (List.replicate n false))).take j = tabO (List.replicate j (List.replicate n false)) := List.take_of_length_le (by rw [tabO_len, htl]; exact Nat.le_refl _)
    have hgl : ∀ x : List AV, (tabO (List.replicate j (List.replicate n false)) ++ [x]).getD j [] = x := fun x => by rw [List.getD_eq_getElem?_getD, List.getElem?_append_right (by rw [tabO_len, htl]; exact Nat.le_refl _), tabO_len, htl]; simp
    have hsl : ∀ x y : List AV, (tabO (List.replicate j (List.replicate n false)) ++ [x]).set j y = tabO (List.replicate j (List.replicate n false)) ++ [y] := fun x y => by rw [List.set_append_right _ _ (by rw [tabO_len, htl]; exact Nat.le_refl _), tabO_len, htl]; simp
    have hll : ∀ x : List AV, (tabO (List.replicate j (List.replicate n false)) ++ [x]).length = j + 1 := fun x => by simp [tabO_len]
    have hrs : List.replicate (j + 1) (List.replicate n false) = List.replicate j (List.replicate n false) ++ [List.replicate n false] := List.replicate_succ'
    have hta := tabO_app (List.replicate j (List.replicate n false)) (List.replicate n false)
    rw [hro, ← hrs] at hta
    refine AW.skip ?_
    refine hK5 _ _ _ ?_; clear hK5
    refine AW.seq fun K7 hK7 => ?_
    refine AW.block ?_
    -- region 5
    refine AW.regionD mixed 100 (fun ii => if ii = 3 then some (.upd [] (fun k => [(0, some ⟨k, k, 1, words (setW (List.replicate n false) n)⟩)]) (fun k => .agg [.int .i64 n, .sl ⟨0, k, none⟩ 0 (wordsN n).toNat none])) else none) [0, 2, 3, 4] [102, 103, 114, 200] ?_
    simp only [go_sem, reduceIte, reduceCtorEq, Nat.reduceAdd, Nat.reduceMul, Nat.reduceEqDiff, Nat.reduceLT, Nat.reduceLeDiff, Nat.reduceSub, Nat.reducePow, Nat.reduceBEq, Int.reduceToNat, List.reduceReplicate, htk, tabO_len, htl, renC_words]
    repeat with_reducible refine cj ?_ ?_
    all_goals try first | (exact he) | omega | exact chk (by kernel_rfl) | exact ent (by kernel_rfl) | (simp [scP, scalar]; done) | exact scP_words _ | exact scP_ints _ | exact scP_bools _
    refine hK7 _ _ _ ?_; clear hK7
    refine AW.adoptK 200 j 1 114 ?_
    simp only [go_sem, reduceIte, Nat.reduceEqDiff, hgl, hsl, hll]
    refine ⟨by decide, hwl, noOsl_words _, ?_⟩
    refine AW.keep [0, 2, 3, 4] [102, 103, 200] ?_
    simp only [go_sem, reduceIte, Nat.reduceEqDiff]
    rw [hta]
    -- region 4
    refine AW.regionK 100 (fun _ => none) [0, 2, 3, 4] [102, 103, 200] ?_
    simp only [go_sem, reduceIte, reduceCtorEq, Nat.reduceAdd, Nat.reduceMul, Nat.reduceEqDiff, Nat.reduceLT, Nat.reduceLeDiff, Nat.reduceSub, Nat.reducePow, Nat.reduceBEq, Int.reduceToNat, List.reduceReplicate]
    repeat with_reducible refine cj ?_ ?_
    all_goals try first | omega
    rw [← hQl1]
    change Exists _
    refine ⟨_, ?hm, j + 1, ?_, ?_, ?_, ?_, ?_, ?_, rfl, ?henv, ?hstore, ?hst⟩
    case henv =>
      repeat' (first | rfl | refine env_cons ?_ ?_ | refine st_cons ?_ ?_ ?_ ?_ | refine int_eq ?_ | refine bool_eq ?_ | refine rsl_eq ?_ | refine osl_eq ?_ | refine sl_eq ?_ ?_ ?_ | refine ptr_eq ?_ ?_ ?_ | refine agg_eq ?_ | refine es_cons ?_ ?_ | refine row_cons ?_ ?_)
      all_goals (first | (simp; done) | omega | (simp; omega))
    case hstore =>
      repeat' (first | rfl | refine env_cons ?_ ?_ | refine st_cons ?_ ?_ ?_ ?_ | refine int_eq ?_ | refine bool_eq ?_ | refine rsl_eq ?_ | refine osl_eq ?_ | refine sl_eq ?_ ?_ ?_ | refine ptr_eq ?_ ?_ ?_ | refine agg_eq ?_ | refine es_cons ?_ ?_ | refine row_cons ?_ ?_)
      all_goals (first | (simp; done) | omega | (simp; omega))
    case hst =>
      first | trivial | omega | (simp; done) | (simp; omega)
    case hm => omega
  · intro hb
    try simp only [hB, decide_eq_true_eq, decide_eq_false_iff_not] at hb
    refine AW.keep [2, 3] [102, 103, 116, 200] ?_
    try simp only [go_sem, reduceIte, reduceCtorEq, Nat.reduceAdd, Nat.reduceMul, Nat.reduceEqDiff, Nat.reduceLT, Nat.reduceLeDiff, Nat.reduceSub, Nat.reducePow, Nat.reduceBEq, Int.reduceToNat, List.reduceReplicate]
    refine AW.exit ?_
    rw [← hQl1]
    refine hK3 _ _ _ ?_; clear hK3
    refine AW.seq fun K8 hK8 => ?_
    -- region 6
    refine AW.regionK 100 (fun _ => none) [2] [102, 200] ?_
    simp only [go_sem, reduceIte, reduceCtorEq, Nat.reduceAdd, Nat.reduceMul, Nat.reduceEqDiff, Nat.reduceLT, Nat.reduceLeDiff, Nat.reduceSub, Nat.reducePow, Nat.reduceBEq, Int.reduceToNat, List.reduceReplicate]
    repeat with_reducible refine cj ?_ ?_
    all_goals try first | omega
    refine hK8 _ _ _ ?_; clear hK8
    refine AW.ret ?_
    rw [← hQr]
    simp only [go_sem, reduceIte, reduceCtorEq, Nat.reduceAdd, Nat.reduceMul, Nat.reduceEqDiff, Nat.reduceLT, Nat.reduceLeDiff, Nat.reduceSub, Nat.reducePow, Nat.reduceBEq, Int.reduceToNat, List.reduceReplicate]
    have hj : j = n := by omega
    subst hj
    refine ⟨[(200, 0, true)], ?_⟩
    simp only [go_sem, reduceIte, Nat.reduceEqDiff, renC_tabO]
theorem rput_u (n : Nat) (t : List (List Bool)) (hs : Sq n t) (hn : n ≤ 512) (i j : Nat) (hi : i < n) (hj : j < n) (g v : Nat) (kc : Option Nat) :
    Upd Tryd.prog 53 [(0, some ⟨g, v, 2, tabO t⟩)] [.agg [.sl ⟨0, g, none⟩ 0 n kc], .int .i64 i, .int .i64 j] (fun _ => .tup []) (fun k => [(0, some ⟨g, k, 2, tabO (putT t i j)⟩)]) := by
  have hrl := hs.rowLen hi
  have hlen := hs.len
  have hgt := tabO_get (t := t) (i := i) (by omega)
  have htl := tabO_len t
  have hts := tabO_set t i
  have hpt : putT t i j = t.set i ((rowT t i).set j true) := rfl
  rw [hpt]
  generalize hb : rowT t i = b at *
  have hwl := setW_len' b
  have hd := div64_rng (i := (j : Int)) (n := b.length) (by omega) (by omega)
  have hwn := wordsN_rng (n := (b.length : Int)) (by omega)
  have hgw := words_getD (l := setW b b.length) (i := ((j : Int).tdiv 64).toNat) (by omega)
  have hsb := setBit_setW b (i := j) (by omega)
  have hwr := wrap64 (i := (j : Int)) (by omega)
  unfold setBit at hsb
  have hro : rowO (b.set j true) = [.int .i64 b.length, .osl 1 (words (setW (b.set j true) b.length))] := by simp [rowO]
  have hts2 : (tabO t).set i [.int .i64 b.length, .osl 1 (words (setW (b.set j true) b.length))] = tabO (t.set i (b.set j true)) := by rw [← hro]; exact hts _
  refine Upd.of_body (rs := []) Tryd.func53 rfl Tryd.ntmps53 rfl (by simp) ?_
  intro k0 k hk0 hk1
  generalize hQr : retQ _ _ _ = Qr
  refine AW.seq fun K1 hK1 => ?_
  -- region 0
  refine AW.regionK 100 (fun _ => none) [1, 2, 3] [0, 103] ?_
  simp only [go_sem, reduceIte, reduceCtorEq, Nat.reduceAdd, Nat.reduceMul, Nat.reduceEqDiff, Nat.reduceLT, Nat.reduceLeDiff, Nat.reduceSub, Nat.reducePow, Nat.reduceBEq, Int.reduceToNat, List.reduceReplicate]
  repeat with_reducible refine cj ?_ ?_
  all_goals try first | omega
  refine hK1 _ _ _ ?_; clear hK1
  -- region 1
  refine AW.regionD mixed 100 (fun _ => none) [] [0] ?_
  simp only [go_sem, reduceIte, reduceCtorEq, Nat.reduceAdd, Nat.reduceMul, Nat.reduceEqDiff, Nat.reduceLT, Nat.reduceLeDiff, Nat.reduceSub, Nat.reducePow, Nat.reduceBEq, Int.reduceToNat, List.reduceReplicate, hgt, rowO, hgw, hwr, hsb, hts2]
  repeat with_reducible refine cj ?_ ?_
  all_goals try first | omega | exact chk (by kernel_rfl)
  rw [← hQr]
  simp only [go_sem, reduceIte, reduceCtorEq, Nat.reduceAdd, Nat.reduceMul, Nat.reduceEqDiff, Nat.reduceLT, Nat.reduceLeDiff, Nat.reduceSub, Nat.reducePow, Nat.reduceBEq, Int.reduceToNat, List.reduceReplicate]
  refine ⟨[(0, 0, false)], ?_⟩
  simp only [go_sem, reduceIte, renC_tabO]
end Go.Proofs.P

namespace Go.Proofs.P
open Go.AM Go
set_option maxRecDepth 100000
set_option maxHeartbeats 2000000
end Go.Proofs.P

/- Plain facts on the reference's functions over orders. -/
namespace Go.AM
def upL (t : List (List Bool)) (b : List Bool) (l : List Nat) : List Bool := l.foldl (fun r i => List.zipWith (· || ·) r (rowT t i)) b
theorem upL_get {n : Nat} {t : List (List Bool)} (hs : Sq n t) : ∀ (l : List Nat) (r : List Bool), (∀ i ∈ l, i < n) → r.length = n → (upL t r l).length = n ∧ ∀ j, j < n → (upL t r l).getD j false = (r.getD j false || l.any fun i => atT t i j)
  | [], r, _, h => ⟨h, fun j _ => by simp [upL]⟩
  | a :: l, r, hl, h => by
    have hr := hs.rowLen (hl a (List.mem_cons_self ..))
    obtain ⟨h1, h2⟩ := upL_get hs l (List.zipWith (· || ·) r (rowT t a)) (fun i hi => hl i (List.mem_cons_of_mem _ hi)) (by simp [h, hr])
    refine ⟨h1, fun j hj => ?_⟩
    have e : upL t r (a :: l) = upL t (List.zipWith (· || ·) r (rowT t a)) l := rfl
    rw [e, h2 j hj, zipB_get _ (by rw [h, hr]) (by rw [h]; exact hj), List.any_cons, Bool.or_assoc]; rfl
theorem upL_all {n : Nat} {t : List (List Bool)} (hs : Sq n t) {b : List Bool} (hb : b.length = n) : upL t b (memB b) = upT n t b := by
  obtain ⟨h1, h2⟩ := upL_get hs (memB b) b (fun i hi => by have := (memB_mem.1 hi).1; omega) hb
  refine getD_extB (by rw [h1, upT, setR_len]) fun j hj => ?_
  rw [h1] at hj
  rw [h2 j hj, upT, setR_get hj]
  congr 1
  unfold abvF
  refine bool_ext ?_
  rw [List.any_eq_true, List.any_eq_true]
  constructor
  · rintro ⟨i, h3, h4⟩
    have := memB_mem.1 h3
    exact ⟨i, List.mem_range.2 (by omega), by rw [this.2, h4]; rfl⟩
  · rintro ⟨i, h3, h4⟩
    rw [Bool.and_eq_true] at h4
    exact ⟨i, memB_mem.2 ⟨by rw [hb]; exact List.mem_range.1 h3, h4.1⟩, h4.2⟩
theorem upL_snoc (t : List (List Bool)) (b : List Bool) (l : List Nat) (i : Nat) : upL t b (l ++ [i]) = List.zipWith (· || ·) (upL t b l) (rowT t i) := by simp [upL]
end Go.AM

namespace Go.Proofs.P
open Go.AM Go
set_option maxRecDepth 100000
set_option maxHeartbeats 2000000
theorem rset_r (es : List (List AV)) (hes : es.length ≤ 9223372036854775807) (N : Int) (W : List Int) (hW : okW W) (hl : W.length ≤ 9223372036854775807) : Reads Tryd.prog 20 false [.agg [.rsl 2 es], .agg [.int .i64 N, .rsl 1 (words W)]] (.bool (validS N W && decide (N = es.length))) := by
  have h := rvalid2_r N W hW hl
  refine Reads.body (rs := [.tmp 4]) Tryd.func20 rfl Tryd.ntmps20 rfl (by simp) ?_
  generalize hQr : retQ _ _ _ = Qr
  refine AW.seq fun K1 hK1 => ?_
  -- region 0
  refine AW.regionK 0 (fun _ => none) [2, 3] [2, 3] ?_
  simp only [go_sem, reduceIte, reduceCtorEq, Nat.reduceAdd, Nat.reduceMul, Nat.reduceEqDiff, Nat.reduceLT, Nat.reduceLeDiff, Nat.reduceSub, Nat.reducePow, Nat.reduceBEq, Int.reduceToNat, List.reduceReplicate]
  repeat with_reducible refine cj ?_ ?_
  all_goals try first | omega
  refine hK1 _ _ _ ?_; clear hK1
  refine AW.seq fun K2 hK2 => ?_
  -- region 1
  refine AW.regionK 0 (fun ii => if ii = 1 then some (.reads false (.bool (validS N W))) else none) [4] [] ?_
  simp only [go_sem, reduceIte, reduceCtorEq, Nat.reduceAdd, Nat.reduceMul, Nat.reduceEqDiff, Nat.reduceLT, Nat.reduceLeDiff, Nat.reduceSub, Nat.reducePow, Nat.reduceBEq, Int.reduceToNat, List.reduceReplicate]
  repeat with_reducible refine cj ?_ ?_
  all_goals try first | (exact h) | (intros; (repeat' apply And.intro) <;> first | assumption | (exact h)) | omega | exact ent (by kernel_rfl) | (intro hgd; exact absurd hgd (by decide)) | rfl | (simp only [go_sem, reduceIte, reduceCtorEq, Nat.reduceAdd, Nat.reduceMul, Nat.reduceEqDiff, Nat.reduceLT, Nat.reduceLeDiff, Nat.reduceSub, Nat.reducePow, Nat.reduceBEq, Int.reduceToNat, List.reduceReplicate]; done) | (intro _hgd; simp_all [go_sem]; done)
  refine hK2 _ _ _ ?_; clear hK2
  refine AW.ret ?_
  rw [← hQr]
  simp only [go_sem, reduceIte, reduceCtorEq, Nat.reduceAdd, Nat.reduceMul, Nat.reduceEqDiff, Nat.reduceLT, Nat.reduceLeDiff, Nat.reduceSub, Nat.reducePow, Nat.reduceBEq, Int.reduceToNat, List.reduceReplicate]
  exact Wk.refl _
end Go.Proofs.P

namespace Go.Proofs.P
open Go.AM Go
set_option maxRecDepth 100000
set_option maxHeartbeats 2000000
theorem nats_get {M : List Nat} {k q : Nat} (hq : M[k]? = some q) : (ints (nats M)).getD k [] = [.int .i64 (q : Nat)] := ints_get (by simp [nats, hq])
theorem nats_getD {M : List Nat} {k : Nat} (hk : k < M.length) : (ints (nats M)).getD k [] = [.int .i64 (M.getD k 0 : Nat)] := by
  obtain ⟨q, hq⟩ := getI (l := M) (j := k) hk
  rw [getD_of hq]; exact nats_get hq
theorem rup_r (n : Nat) (t : List (List Bool)) (hs : Sq n t) (hn : n ≤ 512) (b : List Bool) (hb0 : b.length = n) : Reads Tryd.prog 41 false [relB t, .agg (rowB b)] (.agg (rowB (upT n t b))) := by
  have hm := (rmembers_r b (by omega)).old
  have hmu := rmembers_u (upT n t b) (by rw [upT, setR_len]; exact hn)
  have hlt : (tabR t).length = n := by rw [tabR_len, hs.len]
  have hmm : ∀ j, j ∈ memB b → j < n := fun j hj => by have := (memB_mem.1 hj).1; omega
  have hml := memB_le b
  have hmu2 := memB_le (upT n t b)
  have hul : (upT n t b).length = n := setR_len _ _
  have hu := fun a c ha hl => runion_r a c ha hl
  have hae := upL_all hs hb0
  have hal := fun l hl => (upL_get hs l b hl hb0).1
  have hgr := fun i hi => tabR_get (t := t) (i := i) hi
  have hlen := hs.len
  have ho := rof2_r n (nats (memB (upT n t b))) hn (by rw [nats_len]; omega) (fun x hx => by obtain ⟨q, h1, h2⟩ := List.mem_map.1 hx; have := (memB_mem.1 h1).1; omega)
  rw [show rowL n (nats (memB (upT n t b))) = upT n t b from rowL_mem hul] at ho
  have htk : (ints (nats (memB (upT n t b)))).take (memB (upT n t b)).length = ints (nats (memB (upT n t b))) := List.take_of_length_le (by rw [ints_len, nats_len]; exact Nat.le_refl _)
  generalize hM : memB b = M at *
  unfold relB rowB at *
  refine Reads.body (rs := [.cell 4 35]) Tryd.func41 rfl Tryd.ntmps41 rfl (by simp) ?_
  generalize hQr : retQ _ _ _ = Qr
  refine AW.seq fun K1 hK1 => ?_
  -- region 0
  refine AW.regionK 0 (fun _ => none) [2, 3, 4] [2, 3, 4] ?_
  simp only [go_sem, reduceIte, reduceCtorEq, Nat.reduceAdd, Nat.reduceMul, Nat.reduceEqDiff, Nat.reduceLT, Nat.reduceLeDiff, Nat.reduceSub, Nat.reducePow, Nat.reduceBEq, Int.reduceToNat, List.reduceReplicate, nats_len, ints_len]
  repeat with_reducible refine cj ?_ ?_
  all_goals try first | omega
  refine hK1 _ _ _ ?_; clear hK1
  refine AW.seq fun K2 hK2 => ?_
  -- region 1
  refine AW.regionK 0 (fun ii => if ii = 1 then some (.reads false (.rsl 1 (ints (nats M)))) else none) [2, 3, 4, 5] [2, 3, 4] ?_
  simp only [go_sem, reduceIte, reduceCtorEq, Nat.reduceAdd, Nat.reduceMul, Nat.reduceEqDiff, Nat.reduceLT, Nat.reduceLeDiff, Nat.reduceSub, Nat.reducePow, Nat.reduceBEq, Int.reduceToNat, List.reduceReplicate, nats_len, ints_len]
  repeat with_reducible refine cj ?_ ?_
  all_goals try first | (exact hm) | omega | exact ent (by kernel_rfl)
  refine hK2 _ _ _ ?_; clear hK2
  refine AW.seq fun K3 hK3 => ?_
  -- region 2
  refine AW.regionK 0 (fun _ => none) [2, 3, 4, 5, 6] [2, 3, 4, 6] ?_
  simp only [go_sem, reduceIte, reduceCtorEq, Nat.reduceAdd, Nat.reduceMul, Nat.reduceEqDiff, Nat.reduceLT, Nat.reduceLeDiff, Nat.reduceSub, Nat.reducePow, Nat.reduceBEq, Int.reduceToNat, List.reduceReplicate, nats_len, ints_len]
  repeat with_reducible refine cj ?_ ?_
  all_goals try first | omega
  refine hK3 _ _ _ ?_; clear hK3
  refine AW.seq fun K4 hK4 => ?_
  refine AW.seq fun K5 hK5 => ?_
  -- region 3
  refine AW.regionK 0 (fun _ => none) [2, 3, 4, 5, 6, 7] [2, 3, 4, 6] ?_
  simp only [go_sem, reduceIte, reduceCtorEq, Nat.reduceAdd, Nat.reduceMul, Nat.reduceEqDiff, Nat.reduceLT, Nat.reduceLeDiff, Nat.reduceSub, Nat.reducePow, Nat.reduceBEq, Int.reduceToNat, List.reduceReplicate, nats_len, ints_len]
  repeat with_reducible refine cj ?_ ?_
  all_goals try first | omega
  refine hK5 _ _ _ ?_; clear hK5
  refine AW.block ?_
  -- loop 1
  refine AW.loopE (fun mm ee ss kk => ∃ (k g2 v2 g3 v3 g4 v4 g6 v6 : Nat), M.length - k = mm ∧ ee = [(2, .ptr ⟨2, g2, none⟩ 0 0), (3, .ptr ⟨3, g3, none⟩ 0 0), (4, .ptr ⟨4, g4, none⟩ 0 0), (5, .rsl 1 (ints (nats M))), (6, .ptr ⟨6, g6, none⟩ 0 0), (7, .int .i64 (k : Nat))] ∧ ss = [(2, some ⟨g2, v2, 1, [[.rsl 2 (tabR t)]]⟩), (3, some ⟨g3, v3, 2, [[.int .i64 b.length, .rsl 1 (words (setW b b.length))]]⟩), (4, some ⟨g4, v4, 2, [[.int .i64 0, .nilsl]]⟩), (6, some ⟨g6, v6, 2, [[.int .i64 (upL t b (M.take k)).length, .rsl 1 (words (setW (upL t b (M.take k)) (upL t b (M.take k)).length))]]⟩)] ∧ (k ≤ M.length)) ?_ ?_
  · refine ⟨_, 0, ?_, ?_, ?_, ?_, ?_, ?_, ?_, ?_, rfl, ?henv, ?hstore, ?hst⟩
    case henv =>
      repeat' (first | rfl | refine env_cons ?_ ?_ | refine st_cons ?_ ?_ ?_ ?_ | refine int_eq ?_ | refine bool_eq ?_ | refine rsl_eq ?_ | refine osl_eq ?_ | refine sl_eq ?_ ?_ ?_ | refine ptr_eq ?_ ?_ ?_ | refine agg_eq ?_ | refine es_cons ?_ ?_ | refine row_cons ?_ ?_)
      all_goals (first | (simp; done) | omega | (simp; omega))
    case hstore =>
      repeat' (first | rfl | refine env_cons ?_ ?_ | refine st_cons ?_ ?_ ?_ ?_ | refine int_eq ?_ | refine bool_eq ?_ | refine rsl_eq ?_ | refine osl_eq ?_ | refine sl_eq ?_ ?_ ?_ | refine ptr_eq ?_ ?_ ?_ | refine agg_eq ?_ | refine es_cons ?_ ?_ | refine row_cons ?_ ?_)
      all_goals rfl
    case hst =>
      first | trivial | omega | (simp; done) | (simp; omega)
  rintro mm ee ss kk ⟨k, g2, v2, g3, v3, g4, v4, g6, v6, rfl, rfl, rfl, hI⟩
  generalize hQl1 : thenQ _ _ = Ql1
  refine AW.seq fun K6 hK6 => ?_
  refine AW.seq fun K7 hK7 => ?_
  -- region 4
  refine AW.regionK 0 (fun _ => none) [2, 3, 4, 5, 6, 7, 14] [2, 3, 4, 6] ?_
  simp only [go_sem, reduceIte, reduceCtorEq, Nat.reduceAdd, Nat.reduceMul, Nat.reduceEqDiff, Nat.reduceLT, Nat.reduceLeDiff, Nat.reduceSub, Nat.reducePow, Nat.reduceBEq, Int.reduceToNat, List.reduceReplicate, nats_len, ints_len]
  repeat with_reducible refine cj ?_ ?_
  all_goals try first | omega
  refine hK7 _ _ _ ?_; clear hK7
  -- cond 1
  refine AW.cond rfl (by simp only [go_sem, reduceIte, reduceCtorEq, Nat.reduceAdd, Nat.reduceMul, Nat.reduceEqDiff, Nat.reduceLT, Nat.reduceLeDiff, Nat.reduceSub, Nat.reducePow, Nat.reduceBEq, Int.reduceToNat, List.reduceReplicate]) ?_ ?_
  · intro hb
    try simp only [hB, decide_eq_true_eq, decide_eq_false_iff_not] at hb
    obtain ⟨q, hq⟩ := getI (l := M) (j := k) (by omega)
    have hgq := nats_get hq
    have hqn := hmm q (List.mem_of_getElem? hq)
    have hgt := hgr q (by omega)
    have hqr := hs.rowLen hqn
    have hak := hal (M.take k) (fun i hi => hmm i (List.mem_of_mem_take hi))
    have huk := hu (upL t b (M.take k)) (rowT t q) (by omega) (by omega)
    have hts : M.take (k + 1) = M.take k ++ [q] := by obtain ⟨h1, h2⟩ := List.getElem?_eq_some_iff.1 hq; rw [List.take_succ_eq_append_getElem h1, h2]
    have hsn := upL_snoc t b (M.take k) q
    rw [← hts] at hsn
    rw [← hsn] at huk
    refine AW.skip ?_
    refine hK6 _ _ _ ?_; clear hK6
    refine AW.seq fun K8 hK8 => ?_
    refine AW.block ?_
    -- region 6
    refine AW.regionD mixed 0 (fun ii => if ii = 9 then some (.reads false (.agg [.int .i64 (upL t b (M.take (k + 1))).length, .rsl 1 (words (setW (upL t b (M.take (k + 1))) (upL t b (M.take (k + 1))).length))])) else none) [2, 3, 4, 5, 6, 7] [2, 3, 4, 6] ?_
    simp only [go_sem, reduceIte, reduceCtorEq, Nat.reduceAdd, Nat.reduceMul, Nat.reduceEqDiff, Nat.reduceLT, Nat.reduceLeDiff, Nat.reduceSub, Nat.reducePow, Nat.reduceBEq, Int.reduceToNat, List.reduceReplicate, nats_len, ints_len, hgq, hgt]
    repeat with_reducible refine cj ?_ ?_
    all_goals try first | (first | exact huk | exact ⟨rfl, huk⟩) | omega | exact chk (by kernel_rfl) | exact ent (by kernel_rfl)
    refine hK8 _ _ _ ?_; clear hK8
    -- region 5
    refine AW.regionK 0 (fun _ => none) [2, 3, 4, 5, 6, 7] [2, 3, 4, 6] ?_
    simp only [go_sem, reduceIte, reduceCtorEq, Nat.reduceAdd, Nat.reduceMul, Nat.reduceEqDiff, Nat.reduceLT, Nat.reduceLeDiff, Nat.reduceSub, Nat.reducePow, Nat.reduceBEq, Int.reduceToNat, List.reduceReplicate, nats_len, ints_len]
    repeat with_reducible refine cj ?_ ?_
    all_goals try first | omega
    rw [← hQl1]
    change Exists _
    refine ⟨_, ?hm, k + 1, ?_, ?_, ?_, ?_, ?_, ?_, ?_, ?_, rfl, ?henv, ?hstore, ?hst⟩
    case henv =>
      repeat' (first | rfl | refine env_cons ?_ ?_ | refine st_cons ?_ ?_ ?_ ?_ | refine int_eq ?_ | refine bool_eq ?_ | refine rsl_eq ?_ | refine osl_eq ?_ | refine sl_eq ?_ ?_ ?_ | refine ptr_eq ?_ ?_ ?_ | refine agg_eq ?_ | refine es_cons ?_ ?_ | refine row_cons ?_ ?_)
      all_goals (first | (simp; done) | omega | (simp; omega))
    case hstore =>
      repeat' (first | rfl | refine env_cons ?_ ?_ | refine st_cons ?_ ?_ ?_ ?_ | refine int_eq ?_ | refine bool_eq ?_ | refine rsl_eq ?_ | refine osl_eq ?_ | refine sl_eq ?_ ?_ ?_ | refine ptr_eq ?_ ?_ ?_ | refine agg_eq ?_ | refine es_cons ?_ ?_ | refine row_cons ?_ ?_)
      all_goals (first | (simp; done) | omega | (simp; omega))
    case hst =>
      first | trivial | omega | (simp; done) | (simp; omega)
    case hm => omega
  · intro hb
    try simp only [hB, decide_eq_true_eq, decide_eq_false_iff_not] at hb
    have hk : k = M.length := by omega
    subst hk
    rw [List.take_of_length_le (Nat.le_refl _), hae]
    refine AW.keep [3, 4, 6] [3, 4, 6] ?_
    try simp only [go_sem, reduceIte, reduceCtorEq, Nat.reduceAdd, Nat.reduceMul, Nat.reduceEqDiff, Nat.reduceLT, Nat.reduceLeDiff, Nat.reduceSub, Nat.reducePow, Nat.reduceBEq, Int.reduceToNat, List.reduceReplicate]
    refine AW.exit ?_
    rw [← hQl1]
    refine hK4 _ _ _ ?_; clear hK4
    refine AW.seq fun K9 hK9 => ?_
    -- region 7
    refine AW.regionD mixed 0 (fun ii => if ii = 3 then some (.upd [] (fun k => [(0, some ⟨k, k, 1, ints (nats (memB (upT n t b)))⟩)]) (fun k => .sl ⟨0, k, none⟩ 0 (memB (upT n t b)).length none)) else if ii = 4 then some (.reads true (.agg [.int .i64 (upT n t b).length, .rsl 1 (words (setW (upT n t b) (upT n t b).length))])) else none) [4] [4] ?_
    simp only [go_sem, reduceIte, reduceCtorEq, Nat.reduceAdd, Nat.reduceMul, Nat.reduceEqDiff, Nat.reduceLT, Nat.reduceLeDiff, Nat.reduceSub, Nat.reducePow, Nat.reduceBEq, Int.reduceToNat, List.reduceReplicate, nats_len, ints_len, renC_ints, htk, hb0]
    repeat with_reducible refine cj ?_ ?_
    all_goals try first | (first | exact hmu | exact ho) | omega | exact chk (by kernel_rfl) | exact ent (by kernel_rfl)
    refine hK9 _ _ _ ?_; clear hK9
    refine AW.ret ?_
    rw [← hQr]
    simp only [go_sem, reduceIte, reduceCtorEq, Nat.reduceAdd, Nat.reduceMul, Nat.reduceEqDiff, Nat.reduceLT, Nat.reduceLeDiff, Nat.reduceSub, Nat.reducePow, Nat.reduceBEq, Int.reduceToNat, List.reduceReplicate, nats_len, ints_len]
    exact Wk.refl _
theorem rrestrict_r (n : Nat) (t : List (List Bool)) (hs : Sq n t) (hn : n ≤ 512) (b : List Bool) (hb0 : b.length = n) : Reads Tryd.prog 42 true [relB t, .agg (rowB b)] (relB (resT t (memB b))) := by
  have hm := rmembers_r b (by omega)
  have hlt : (tabR t).length = n := by rw [tabR_len, hs.len]
  have hml := memB_le b
  have hmm : ∀ a, a < (memB b).length → (memB b).getD a 0 < n := fun a ha => memB_lt hb0 ha
  have hgm : ∀ a, a < (memB b).length → (ints (nats (memB b))).getD a [] = [.int .i64 ((memB b).getD a 0 : Nat)] := fun a ha => nats_getD ha
  have hls := rless_r n t hs hn
  have hemp := rempty6_u (memB b).length (by omega)
  have hput := fun U hU i j hi hj g v => rput_u (memB b).length U hU (by omega) i j hi hj g v none
  have hct : tabF (memB b).length (fun a c => atT t ((memB b).getD a 0) ((memB b).getD c 0)) = resT t (memB b) := rfl
  have hrl := (resT_sq t (memB b)).len
  generalize resT t (memB b) = R at *
  generalize hM : memB b = M at *
  unfold relB rowB at *
  refine Reads.bodyF (rs := [.cell 4 24]) Tryd.func42 rfl Tryd.ntmps42 rfl (by simp) ?_
  generalize hQr : retQ _ _ _ = Qr
  refine AW.seq fun K1 hK1 => ?_
  -- region 0
  refine AW.regionK 0 (fun _ => none) [2, 3, 4] [2, 3, 4] ?_
  simp only [go_sem, reduceIte, reduceCtorEq, Nat.reduceAdd, Nat.reduceMul, Nat.reduceEqDiff, Nat.reduceLT, Nat.reduceLeDiff, Nat.reduceSub, Nat.reducePow, Nat.reduceBEq, Int.reduceToNat, List.reduceReplicate, hlt, renC_tabO, ints_len, nats_len]
  repeat with_reducible refine cj ?_ ?_
  all_goals try first | omega
  refine hK1 _ _ _ ?_; clear hK1
  refine AW.seq fun K2 hK2 => ?_
  -- region 1
  refine AW.regionK 0 (fun ii => if ii = 1 then some (.reads true (.rsl 1 (ints (nats M)))) else none) [2, 4, 5] [2, 4] ?_
  simp only [go_sem, reduceIte, reduceCtorEq, Nat.reduceAdd, Nat.reduceMul, Nat.reduceEqDiff, Nat.reduceLT, Nat.reduceLeDiff, Nat.reduceSub, Nat.reducePow, Nat.reduceBEq, Int.reduceToNat, List.reduceReplicate, hlt, renC_tabO, ints_len, nats_len]
  repeat with_reducible refine cj ?_ ?_
  all_goals try first | (exact hm) | omega | exact ent (by kernel_rfl)
  refine hK2 _ _ _ ?_; clear hK2
  refine AW.seq fun K3 hK3 => ?_
  -- region 2
  refine AW.regionK 0 (fun ii => if ii = 2 then some (.upd [] (fun k => [(0, some ⟨k, k, 2, tabO (zeroT M.length)⟩)]) (fun k => .agg [.sl ⟨0, k, none⟩ 0 M.length none])) else none) [2, 4, 5, 6] [2, 4, 6, 13] ?_
  simp only [go_sem, reduceIte, reduceCtorEq, Nat.reduceAdd, Nat.reduceMul, Nat.reduceEqDiff, Nat.reduceLT, Nat.reduceLeDiff, Nat.reduceSub, Nat.reducePow, Nat.reduceBEq, Int.reduceToNat, List.reduceReplicate, hlt, renC_tabO, ints_len, nats_len]
  repeat with_reducible refine cj ?_ ?_
  all_goals try first | (exact hemp) | omega | exact ent (by kernel_rfl)
  refine hK3 _ _ _ ?_; clear hK3
  refine AW.seq fun K4 hK4 => ?_
  refine AW.seq fun K5 hK5 => ?_
  -- region 3
  refine AW.regionK 0 (fun _ => none) [2, 4, 5, 6, 7] [2, 4, 6, 13] ?_
  simp only [go_sem, reduceIte, reduceCtorEq, Nat.reduceAdd, Nat.reduceMul, Nat.reduceEqDiff, Nat.reduceLT, Nat.reduceLeDiff, Nat.reduceSub, Nat.reducePow, Nat.reduceBEq, Int.reduceToNat, List.reduceReplicate, hlt, renC_tabO, ints_len, nats_len]
  repeat with_reducible refine cj ?_ ?_
  all_goals try first | omega
  refine hK5 _ _ _ ?_; clear hK5
  refine AW.block ?_
  -- loop 1
  refine AW.loopE (fun mm ee ss kk => ∃ (i g2 v2 g4 v4 g6 v6 g v : Nat), M.length - i = mm ∧ ee = [(2, .ptr ⟨2, g2, none⟩ 0 0), (4, .ptr ⟨4, g4, none⟩ 0 0), (5, .rsl 1 (ints (nats M))), (6, .ptr ⟨6, g6, none⟩ 0 0), (7, .int .i64 (i : Nat))] ∧ ss = [(2, some ⟨g2, v2, 1, [[.rsl 2 (tabR t)]]⟩), (4, some ⟨g4, v4, 1, [[.nilsl]]⟩), (6, some ⟨g6, v6, 1, [[.sl ⟨13, g, none⟩ 0 M.length none]]⟩), (13, some ⟨g, v, 2, tabO (tabF M.length (partF (fun a c => atT t (M.getD a 0) (M.getD c 0)) i 0))⟩)] ∧ (i ≤ M.length)) ?_ ?_
  · refine ⟨_, 0, ?_, ?_, ?_, ?_, ?_, ?_, ?_, ?_, rfl, ?henv, ?hstore, ?hst⟩
    case henv =>
      repeat' (first | rfl | refine env_cons ?_ ?_ | refine st_cons ?_ ?_ ?_ ?_ | refine int_eq ?_ | refine bool_eq ?_ | refine rsl_eq ?_ | refine osl_eq ?_ | refine sl_eq ?_ ?_ ?_ | refine ptr_eq ?_ ?_ ?_ | refine agg_eq ?_ | refine es_cons ?_ ?_ | refine row_cons ?_ ?_)
      all_goals (first | (simp; done) | omega | (simp; omega))
    case hstore =>
      repeat' (first | rfl | refine env_cons ?_ ?_ | refine st_cons ?_ ?_ ?_ ?_ | refine int_eq ?_ | refine bool_eq ?_ | refine rsl_eq ?_ | refine osl_eq ?_ | refine sl_eq ?_ ?_ ?_ | refine ptr_eq ?_ ?_ ?_ | refine agg_eq ?_ | refine es_cons ?_ ?_ | refine row_cons ?_ ?_)
      all_goals (rw [part_zero])
    case hst =>
      first | trivial | omega | (simp; done) | (simp; omega)
  rintro mm ee ss kk ⟨i, g2, v2, g4, v4, g6, v6, g, v, rfl, rfl, rfl, hI⟩
  generalize hQl1 : thenQ _ _ = Ql1
  refine AW.seq fun K6 hK6 => ?_
  refine AW.seq fun K7 hK7 => ?_
  -- region 4
  refine AW.regionK 0 (fun _ => none) [2, 4, 5, 6, 7, 17] [2, 4, 6, 13] ?_
  simp only [go_sem, reduceIte, reduceCtorEq, Nat.reduceAdd, Nat.reduceMul, Nat.reduceEqDiff, Nat.reduceLT, Nat.reduceLeDiff, Nat.reduceSub, Nat.reducePow, Nat.reduceBEq, Int.reduceToNat, List.reduceReplicate, hlt, renC_tabO, ints_len, nats_len]
  repeat with_reducible refine cj ?_ ?_
  all_goals try first | omega
  refine hK7 _ _ _ ?_; clear hK7
  -- cond 1
  refine AW.cond rfl (by simp only [go_sem, reduceIte, reduceCtorEq, Nat.reduceAdd, Nat.reduceMul, Nat.reduceEqDiff, Nat.reduceLT, Nat.reduceLeDiff, Nat.reduceSub, Nat.reducePow, Nat.reduceBEq, Int.reduceToNat, List.reduceReplicate]) ?_ ?_
  · intro hb
    try simp only [hB, decide_eq_true_eq, decide_eq_false_iff_not] at hb
    refine AW.skip ?_
    refine hK6 _ _ _ ?_; clear hK6
    refine AW.seq fun K8 hK8 => ?_
    refine AW.block ?_
    refine AW.seq fun K9 hK9 => ?_
    -- region 6
    refine AW.regionK 0 (fun _ => none) [2, 4, 5, 6, 7, 8] [2, 4, 6, 13] ?_
    simp only [go_sem, reduceIte, reduceCtorEq, Nat.reduceAdd, Nat.reduceMul, Nat.reduceEqDiff, Nat.reduceLT, Nat.reduceLeDiff, Nat.reduceSub, Nat.reducePow, Nat.reduceBEq, Int.reduceToNat, List.reduceReplicate, hlt, renC_tabO, ints_len, nats_len]
    repeat with_reducible refine cj ?_ ?_
    all_goals try first | omega
    refine hK9 _ _ _ ?_; clear hK9
    refine AW.block ?_
    -- loop 2
    refine AW.loopE (fun mm ee ss kk => ∃ (j g2 v2 g4 v4 g6 v6 g v : Nat), M.length - j = mm ∧ ee = [(2, .ptr ⟨2, g2, none⟩ 0 0), (4, .ptr ⟨4, g4, none⟩ 0 0), (5, .rsl 1 (ints (nats M))), (6, .ptr ⟨6, g6, none⟩ 0 0), (7, .int .i64 (i : Nat)), (8, .int .i64 (j : Nat))] ∧ ss = [(2, some ⟨g2, v2, 1, [[.rsl 2 (tabR t)]]⟩), (4, some ⟨g4, v4, 1, [[.nilsl]]⟩), (6, some ⟨g6, v6, 1, [[.sl ⟨13, g, none⟩ 0 M.length none]]⟩), (13, some ⟨g, v, 2, tabO (tabF M.length (partF (fun a c => atT t (M.getD a 0) (M.getD c 0)) i j))⟩)] ∧ (j ≤ M.length)) ?_ ?_
    · refine ⟨_, 0, ?_, ?_, ?_, ?_, ?_, ?_, ?_, ?_, rfl, ?henv, ?hstore, ?hst⟩
      case henv =>
        repeat' (first | rfl | refine env_cons ?_ ?_ | refine st_cons ?_ ?_ ?_ ?_ | refine int_eq ?_ | refine bool_eq ?_ | refine rsl_eq ?_ | refine osl_eq ?_ | refine sl_eq ?_ ?_ ?_ | refine ptr_eq ?_ ?_ ?_ | refine agg_eq ?_ | refine es_cons ?_ ?_ | refine row_cons ?_ ?_)
        all_goals (first | (simp; done) | omega | (simp; omega))
      case hstore =>
        repeat' (first | rfl | refine env_cons ?_ ?_ | refine st_cons ?_ ?_ ?_ ?_ | refine int_eq ?_ | refine bool_eq ?_ | refine rsl_eq ?_ | refine osl_eq ?_ | refine sl_eq ?_ ?_ ?_ | refine ptr_eq ?_ ?_ ?_ | refine agg_eq ?_ | refine es_cons ?_ ?_ | refine row_cons ?_ ?_)
        all_goals (first | (simp; done) | omega | (simp; omega))
      case hst =>
        first | trivial | omega | (simp; done) | (simp; omega)
    rintro mm ee ss kk ⟨j, g2, v2, g4, v4, g6, v6, g, v, rfl, rfl, rfl, hI⟩
    generalize hQl2 : thenQ _ _ = Ql2
    refine AW.seq fun K10 hK10 => ?_
    refine AW.seq fun K11 hK11 => ?_
    -- region 7
    refine AW.regionK 0 (fun _ => none) [2, 4, 5, 6, 7, 8, 23] [2, 4, 6, 13] ?_
    simp only [go_sem, reduceIte, reduceCtorEq, Nat.reduceAdd, Nat.reduceMul, Nat.reduceEqDiff, Nat.reduceLT, Nat.reduceLeDiff, Nat.reduceSub, Nat.reducePow, Nat.reduceBEq, Int.reduceToNat, List.reduceReplicate, hlt, renC_tabO, ints_len, nats_len]
    repeat with_reducible refine cj ?_ ?_
    all_goals try first | omega
    refine hK11 _ _ _ ?_; clear hK11
    -- cond 2
    refine AW.cond rfl (by simp only [go_sem, reduceIte, reduceCtorEq, Nat.reduceAdd, Nat.reduceMul, Nat.reduceEqDiff, Nat.reduceLT, Nat.reduceLeDiff, Nat.reduceSub, Nat.reducePow, Nat.reduceBEq, Int.reduceToNat, List.reduceReplicate]) ?_ ?_
    · intro hb
      try simp only [hB, decide_eq_true_eq, decide_eq_false_iff_not] at hb
      have hl1 := hls (M.getD i 0) (M.getD j 0) (hmm i (by omega)) (hmm j (by omega))
      have hgi := hgm i (by omega)
      have hgj := hgm j (by omega)
      have hsq := tabF_sq M.length (partF (fun a c => atT t (M.getD a 0) (M.getD c 0)) i j)
      have hpp := fun h => part_put (n := M.length) (f := fun a c => atT t (M.getD a 0) (M.getD c 0)) (i := i) (j := j) (by omega) (by omega) h
      have hps := fun h => part_skip (n := M.length) (f := fun a c => atT t (M.getD a 0) (M.getD c 0)) (i := i) (j := j) h
      generalize tabF M.length (partF (fun a c => atT t (M.getD a 0) (M.getD c 0)) i j) = U at *
      have hpu := hput U hsq i j (by omega) (by omega)
      refine AW.skip ?_
      refine hK10 _ _ _ ?_; clear hK10
      refine AW.seq fun K12 hK12 => ?_
      refine AW.block ?_
      refine AW.seq fun K13 hK13 => ?_
      -- region 9
      refine AW.regionD mixed 0 (fun ii => if ii = 9 then some (.reads false (.bool (atT t (M.getD i 0) (M.getD j 0)))) else none) [2, 4, 5, 6, 7, 8, 35] [2, 4, 6, 13] ?_
      simp only [go_sem, reduceIte, reduceCtorEq, Nat.reduceAdd, Nat.reduceMul, Nat.reduceEqDiff, Nat.reduceLT, Nat.reduceLeDiff, Nat.reduceSub, Nat.reducePow, Nat.reduceBEq, Int.reduceToNat, List.reduceReplicate, hlt, renC_tabO, ints_len, nats_len, hgi, hgj]
      repeat with_reducible refine cj ?_ ?_
      all_goals try first | (first | exact hl1 | exact ⟨rfl, hl1⟩) | omega | exact chk (by kernel_rfl) | exact ent (by kernel_rfl)
      refine hK13 _ _ _ ?_; clear hK13
      -- cond 3
      refine AW.cond rfl (by simp only [go_sem, reduceIte, reduceCtorEq, Nat.reduceAdd, Nat.reduceMul, Nat.reduceEqDiff, Nat.reduceLT, Nat.reduceLeDiff, Nat.reduceSub, Nat.reducePow, Nat.reduceBEq, Int.reduceToNat, List.reduceReplicate]) ?_ ?_
      · intro hb
        try simp only [hB, decide_eq_true_eq, decide_eq_false_iff_not] at hb
        have hpp := hpp hb
        -- region 10
        refine AW.regionK 0 (fun ii => if ii = 3 then some (.upd [13] (fun kk => [(0, some ⟨g, kk, 2, tabO (putT U i j)⟩)]) (fun _ => .tup [])) else none) [2, 4, 5, 6, 7, 8] [2, 4, 6, 13] ?_
        simp only [go_sem, reduceIte, reduceCtorEq, Nat.reduceAdd, Nat.reduceMul, Nat.reduceEqDiff, Nat.reduceLT, Nat.reduceLeDiff, Nat.reduceSub, Nat.reducePow, Nat.reduceBEq, Int.reduceToNat, List.reduceReplicate, hlt, renC_tabO, ints_len, nats_len]
        repeat with_reducible refine cj ?_ ?_
        all_goals try first | (exact hpu _ _) | omega | exact ent (by kernel_rfl)
        refine hK12 _ _ _ ?_; clear hK12
        -- region 8
        refine AW.regionK 0 (fun _ => none) [2, 4, 5, 6, 7, 8] [2, 4, 6, 13] ?_
        simp only [go_sem, reduceIte, reduceCtorEq, Nat.reduceAdd, Nat.reduceMul, Nat.reduceEqDiff, Nat.reduceLT, Nat.reduceLeDiff, Nat.reduceSub, Nat.reducePow, Nat.reduceBEq, Int.reduceToNat, List.reduceReplicate, hlt, renC_tabO, ints_len, nats_len]
        repeat with_reducible refine cj ?_ ?_
        all_goals try first | omega
        rw [← hQl2]
        change Exists _
        refine ⟨_, ?hm, j + 1, ?_, ?_, ?_, ?_, ?_, ?_, ?_, ?_, rfl, ?henv, ?hstore, ?hst⟩
        case henv =>
          repeat' (first | rfl | refine env_cons ?_ ?_ | refine st_cons ?_ ?_ ?_ ?_ | refine int_eq ?_ | refine bool_eq ?_ | refine rsl_eq ?_ | refine osl_eq ?_ | refine sl_eq ?_ ?_ ?_ | refine ptr_eq ?_ ?_ ?_ | refine agg_eq ?_ | refine es_cons ?_ ?_ | refine row_cons ?_ ?_)
          all_goals (first | (simp; done) | omega | (simp; omega))
        case hstore =>
          repeat' (first | rfl | refine env_cons ?_ ?_ | refine st_cons ?_ ?_ ?_ ?_ | refine int_eq ?_ | refine bool_eq ?_ | refine rsl_eq ?_ | refine osl_eq ?_ | refine sl_eq ?_ ?_ ?_ | refine ptr_eq ?_ ?_ ?_ | refine agg_eq ?_ | refine es_cons ?_ ?_ | refine row_cons ?_ ?_)
          all_goals (rw [hpp])
        case hst =>
          first | trivial | omega | (simp; done) | (simp; omega)
        case hm => omega
      · intro hb
        try simp only [hB, decide_eq_true_eq, decide_eq_false_iff_not] at hb
        have hpp := hps hb
        refine AW.skip ?_
        refine hK12 _ _ _ ?_; clear hK12
        -- region 8
        refine AW.regionK 0 (fun _ => none) [2, 4, 5, 6, 7, 8] [2, 4, 6, 13] ?_
        simp only [go_sem, reduceIte, reduceCtorEq, Nat.reduceAdd, Nat.reduceMul, Nat.reduceEqDiff, Nat.reduceLT, Nat.reduceLeDiff, Nat.reduceSub, Nat.reducePow, Nat.reduceBEq, Int.reduceToNat, List.reduceReplicate, hlt, renC_tabO, ints_len, nats_len]
        repeat with_reducible refine cj ?_ ?_
        all_goals try first | omega
        rw [← hQl2]
        change Exists _
        refine ⟨_, ?hm, j + 1, ?_, ?_, ?_, ?_, ?_, ?_, ?_, ?_, rfl, ?henv, ?hstore, ?hst⟩
        case henv =>
          repeat' (first | rfl | refine env_cons ?_ ?_ | refine st_cons ?_ ?_ ?_ ?_ | refine int_eq ?_ | refine bool_eq ?_ | refine rsl_eq ?_ | refine osl_eq ?_ | refine sl_eq ?_ ?_ ?_ | refine ptr_eq ?_ ?_ ?_ | refine agg_eq ?_ | refine es_cons ?_ ?_ | refine row_cons ?_ ?_)
          all_goals (first | (simp; done) | omega | (simp; omega))
        case hstore =>
          repeat' (first | rfl | refine env_cons ?_ ?_ | refine st_cons ?_ ?_ ?_ ?_ | refine int_eq ?_ | refine bool_eq ?_ | refine rsl_eq ?_ | refine osl_eq ?_ | refine sl_eq ?_ ?_ ?_ | refine ptr_eq ?_ ?_ ?_ | refine agg_eq ?_ | refine es_cons ?_ ?_ | refine row_cons ?_ ?_)
          all_goals (rw [hpp])
        case hst =>
          first | trivial | omega | (simp; done) | (simp; omega)
        case hm => omega
    · intro hb
      try simp only [hB, decide_eq_true_eq, decide_eq_false_iff_not] at hb
      have hj : j = M.length := by omega
      subst hj
      rw [part_row]
      refine AW.keep [2, 4, 5, 6, 7] [2, 4, 6, 13] ?_
      try simp only [go_sem, reduceIte, reduceCtorEq, Nat.reduceAdd, Nat.reduceMul, Nat.reduceEqDiff, Nat.reduceLT, Nat.reduceLeDiff, Nat.reduceSub, Nat.reducePow, Nat.reduceBEq, Int.reduceToNat, List.reduceReplicate]
      refine AW.exit ?_
      rw [← hQl2]
      refine hK8 _ _ _ ?_; clear hK8
      -- region 5
      refine AW.regionK 0 (fun _ => none) [2, 4, 5, 6, 7] [2, 4, 6, 13] ?_
      simp only [go_sem, reduceIte, reduceCtorEq, Nat.reduceAdd, Nat.reduceMul, Nat.reduceEqDiff, Nat.reduceLT, Nat.reduceLeDiff, Nat.reduceSub, Nat.reducePow, Nat.reduceBEq, Int.reduceToNat, List.reduceReplicate, hlt, renC_tabO, ints_len, nats_len]
      repeat with_reducible refine cj ?_ ?_
      all_goals try first | omega
      rw [← hQl1]
      change Exists _
      refine ⟨_, ?hm, i + 1, ?_, ?_, ?_, ?_, ?_, ?_, ?_, ?_, rfl, ?henv, ?hstore, ?hst⟩
      case henv =>
        repeat' (first | rfl | refine env_cons ?_ ?_ | refine st_cons ?_ ?_ ?_ ?_ | refine int_eq ?_ | refine bool_eq ?_ | refine rsl_eq ?_ | refine osl_eq ?_ | refine sl_eq ?_ ?_ ?_ | refine ptr_eq ?_ ?_ ?_ | refine agg_eq ?_ | refine es_cons ?_ ?_ | refine row_cons ?_ ?_)
        all_goals (first | (simp; done) | omega | (simp; omega))
      case hstore =>
        repeat' (first | rfl | refine env_cons ?_ ?_ | refine st_cons ?_ ?_ ?_ ?_ | refine int_eq ?_ | refine bool_eq ?_ | refine rsl_eq ?_ | refine osl_eq ?_ | refine sl_eq ?_ ?_ ?_ | refine ptr_eq ?_ ?_ ?_ | refine agg_eq ?_ | refine es_cons ?_ ?_ | refine row_cons ?_ ?_)
        all_goals (first | (simp; done) | omega | (simp; omega))
      case hst =>
        first | trivial | omega | (simp; done) | (simp; omega)
      case hm => omega
  · intro hb
    try simp only [hB, decide_eq_true_eq, decide_eq_false_iff_not] at hb
    refine AW.keep [4, 6] [4, 6, 13] ?_
    try simp only [go_sem, reduceIte, reduceCtorEq, Nat.reduceAdd, Nat.reduceMul, Nat.reduceEqDiff, Nat.reduceLT, Nat.reduceLeDiff, Nat.reduceSub, Nat.reducePow, Nat.reduceBEq, Int.reduceToNat, List.reduceReplicate]
    refine AW.exit ?_
    rw [← hQl1]
    refine hK4 _ _ _ ?_; clear hK4
    refine AW.seq fun K14 hK14 => ?_
    -- region 11
    refine AW.regionK 0 (fun _ => none) [4] [4, 13] ?_
    simp only [go_sem, reduceIte, reduceCtorEq, Nat.reduceAdd, Nat.reduceMul, Nat.reduceEqDiff, Nat.reduceLT, Nat.reduceLeDiff, Nat.reduceSub, Nat.reducePow, Nat.reduceBEq, Int.reduceToNat, List.reduceReplicate, hlt, renC_tabO, ints_len, nats_len]
    repeat with_reducible refine cj ?_ ?_
    all_goals try first | omega
    refine hK14 _ _ _ ?_; clear hK14
    refine AW.ret ?_
    rw [← hQr]
    simp only [go_sem, reduceIte, reduceCtorEq, Nat.reduceAdd, Nat.reduceMul, Nat.reduceEqDiff, Nat.reduceLT, Nat.reduceLeDiff, Nat.reduceSub, Nat.reducePow, Nat.reduceBEq, Int.reduceToNat, List.reduceReplicate, hlt, renC_tabO, ints_len, nats_len]
    have hi : i = M.length := by omega
    subst hi
    rw [part_all, hct]
    refine Wk.of_eq ?_
    rw [List.take_of_length_le (by rw [tabO_len, hrl]; exact Nat.le_refl _), vwcF_tabO]
end Go.Proofs.P

namespace Go.Proofs.P
open Go.AM Go
set_option maxRecDepth 100000
set_option maxHeartbeats 2000000
theorem set_u (l : List Int) (hl : l.length ≤ 1000) (hr : ∀ i ∈ l, 0 ≤ i ∧ i < ((4 : Nat) : Int)) : Upd Tryd.prog 44 [] [.rsl 1 (ints l)] (fun k => .agg [.int .i64 ((4 : Nat) : Int), .sl ⟨0, k, none⟩ 0 (wordsN ((4 : Nat) : Int)).toNat none]) (fun k => [(0, some ⟨k, k, 1, words (setW (rowL 4 l) 4)⟩)]) := by
  have h := rof2_u 4 l (by decide) (by omega) hr
  rw [show (((4 : Nat) : Int)) = 4 from rfl] at *
  refine Upd.of_body (rs := [.cell 2 35]) Tryd.func44 rfl Tryd.ntmps44 rfl (by simp) ?_
  intro k0 k hk0 hk1
  generalize hQr : retQ _ _ _ = Qr
  refine AW.seq fun K1 hK1 => ?_
  -- region 0
  refine AW.regionK 100 (fun _ => none) [0, 2] [102] ?_
  simp only [go_sem, reduceIte, reduceCtorEq, Nat.reduceAdd, Nat.reduceMul, Nat.reduceEqDiff, Nat.reduceLT, Nat.reduceLeDiff, Nat.reduceSub, Nat.reducePow, Nat.reduceBEq, Int.reduceToNat, List.reduceReplicate]
  repeat with_reducible refine cj ?_ ?_
  all_goals try first | omega
  refine hK1 _ _ _ ?_; clear hK1
  refine AW.seq fun K2 hK2 => ?_
  -- region 1
  refine AW.regionK 100 (fun ii => if ii = 1 then some (.upd [] (fun k => [(0, some ⟨k, k, 1, words (setW (rowL 4 l) 4)⟩)]) (fun k => .agg [.int .i64 4, .sl ⟨0, k, none⟩ 0 (wordsN 4).toNat none])) else none) [2] [102, 104] ?_
  simp only [go_sem, reduceIte, reduceCtorEq, Nat.reduceAdd, Nat.reduceMul, Nat.reduceEqDiff, Nat.reduceLT, Nat.reduceLeDiff, Nat.reduceSub, Nat.reducePow, Nat.reduceBEq, Int.reduceToNat, List.reduceReplicate, renC_words]
  repeat with_reducible refine cj ?_ ?_
  all_goals try first | (exact h) | omega | exact ent (by kernel_rfl)
  refine hK2 _ _ _ ?_; clear hK2
  refine AW.ret ?_
  rw [← hQr]
  simp only [go_sem, reduceIte, reduceCtorEq, Nat.reduceAdd, Nat.reduceMul, Nat.reduceEqDiff, Nat.reduceLT, Nat.reduceLeDiff, Nat.reduceSub, Nat.reducePow, Nat.reduceBEq, Int.reduceToNat, List.reduceReplicate]
  refine ⟨[(104, 0, true)], ?_⟩
  simp only [go_sem, reduceIte, Nat.reduceEqDiff, renC_words]
theorem set_r (l : List Int) (hl : l.length ≤ 1000) (hr : ∀ i ∈ l, 0 ≤ i ∧ i < ((4 : Nat) : Int)) : Reads Tryd.prog 44 true [.rsl 1 (ints l)] (.agg (rowB (rowL 4 l))) :=
  (set_u l hl hr).reads (Wk.of_eq (rowU_reads (n := 4) _ (rowL_len _ _) 0))
theorem few1_r (x : USet) (hx : x.W.length ≤ 9223372036854775807) : Reads Tryd.prog 46 false [.agg (rowV x)] (.bool (decide ((10 : Int) < x.W.length))) := by
  unfold rowV
  refine Reads.body (rs := [.tmp 2]) Tryd.func46 rfl Tryd.ntmps46 rfl (by simp) ?_
  generalize hQr : retQ _ _ _ = Qr
  refine AW.seq fun K1 hK1 => ?_
  -- region 0
  refine AW.regionK 0 (fun _ => none) [1] [1] ?_
  simp only [go_sem, reduceIte, reduceCtorEq, Nat.reduceAdd, Nat.reduceMul, Nat.reduceEqDiff, Nat.reduceLT, Nat.reduceLeDiff, Nat.reduceSub, Nat.reducePow, Nat.reduceBEq, Int.reduceToNat, List.reduceReplicate]
  repeat with_reducible refine cj ?_ ?_
  all_goals try first | omega
  refine hK1 _ _ _ ?_; clear hK1
  refine AW.seq fun K2 hK2 => ?_
  -- region 1
  refine AW.regionK 0 (fun _ => none) [2] [] ?_
  simp only [go_sem, reduceIte, reduceCtorEq, Nat.reduceAdd, Nat.reduceMul, Nat.reduceEqDiff, Nat.reduceLT, Nat.reduceLeDiff, Nat.reduceSub, Nat.reducePow, Nat.reduceBEq, Int.reduceToNat, List.reduceReplicate]
  repeat with_reducible refine cj ?_ ?_
  all_goals try first | omega
  refine hK2 _ _ _ ?_; clear hK2
  refine AW.ret ?_
  rw [← hQr]
  simp only [go_sem, reduceIte, reduceCtorEq, Nat.reduceAdd, Nat.reduceMul, Nat.reduceEqDiff, Nat.reduceLT, Nat.reduceLeDiff, Nat.reduceSub, Nat.reducePow, Nat.reduceBEq, Int.reduceToNat, List.reduceReplicate]
  exact Wk.refl _
def longW (x : USet) : Bool := decide ((10 : Int) < x.W.length)
theorem ixfew_r (rs : List USet) (hl : longR rs) : Reads Tryd.prog 74 false [.rsl 2 (rs.map rowV), .fn 46 []] (.int .i64 (ixf longW rs)) := by
  have hbp := fun x hxm => few1_r x (hl.2 x hxm)
  have hl1 := hl.1
  refine Reads.body (rs := [.tmp 4]) Tryd.func74 rfl Tryd.ntmps74 rfl (by simp) ?_
  generalize hQr : retQ _ _ _ = Qr
  refine AW.seq fun K1 hK1 => ?_
  -- region 0
  refine AW.regionK 0 (fun _ => none) [0, 1] [] ?_
  simp only [go_sem, reduceIte, reduceCtorEq, Nat.reduceAdd, Nat.reduceMul, Nat.reduceEqDiff, Nat.reduceLT, Nat.reduceLeDiff, Nat.reduceSub, Nat.reducePow, Nat.reduceBEq, Int.reduceToNat, List.reduceReplicate]
  repeat with_reducible refine cj ?_ ?_
  all_goals try first | omega
  refine hK1 _ _ _ ?_; clear hK1
  refine AW.seq fun K2 hK2 => ?_
  refine AW.seq fun K3 hK3 => ?_
  -- region 1
  refine AW.regionK 0 (fun _ => none) [0, 1, 7, 8] [] ?_
  simp only [go_sem, reduceIte, reduceCtorEq, Nat.reduceAdd, Nat.reduceMul, Nat.reduceEqDiff, Nat.reduceLT, Nat.reduceLeDiff, Nat.reduceSub, Nat.reducePow, Nat.reduceBEq, Int.reduceToNat, List.reduceReplicate]
  repeat with_reducible refine cj ?_ ?_
  all_goals try first | omega
  refine hK3 _ _ _ ?_; clear hK3
  refine AW.block ?_
  -- loop 1
  refine AW.loopE (fun mm ee ss kk => ∃ (j : Nat), rs.length - j = mm ∧ ee = [(0, .rsl 2 (rs.map rowV)), (1, .fn 46 []), (7, .int .i64 rs.length), (8, .int .i64 (j : Nat))] ∧ ss = [] ∧ (j ≤ rs.length ∧ (rs.take j).any longW = false)) ?_ ?_
  · refine ⟨_, 0, rfl, ?henv, ?hstore, ?hst⟩
    case henv =>
      repeat' (first | rfl | refine env_cons ?_ ?_ | refine st_cons ?_ ?_ ?_ ?_ | refine int_eq ?_ | refine bool_eq ?_ | refine rsl_eq ?_ | refine osl_eq ?_ | refine sl_eq ?_ ?_ ?_ | refine ptr_eq ?_ ?_ ?_ | refine agg_eq ?_ | refine es_cons ?_ ?_ | refine row_cons ?_ ?_)
      all_goals (first | (simp; done) | omega | (simp; omega))
    case hstore =>
      repeat' (first | rfl | refine env_cons ?_ ?_ | refine st_cons ?_ ?_ ?_ ?_ | refine int_eq ?_ | refine bool_eq ?_ | refine rsl_eq ?_ | refine osl_eq ?_ | refine sl_eq ?_ ?_ ?_ | refine ptr_eq ?_ ?_ ?_ | refine agg_eq ?_ | refine es_cons ?_ ?_ | refine row_cons ?_ ?_)
      all_goals (first | (simp; done) | omega | (simp; omega))
    case hst =>
      first | trivial | omega | (simp; done) | (simp; omega)
  rintro mm ee ss kk ⟨j, rfl, rfl, rfl, hI⟩
  generalize hQl1 : thenQ _ _ = Ql1
  obtain ⟨hj, hall⟩ := hI
  refine AW.seq fun K4 hK4 => ?_
  -- region 2
  refine AW.regionK 0 (fun _ => none) [0, 1, 7, 8, 9] [] ?_
  simp only [go_sem, reduceIte, reduceCtorEq, Nat.reduceAdd, Nat.reduceMul, Nat.reduceEqDiff, Nat.reduceLT, Nat.reduceLeDiff, Nat.reduceSub, Nat.reducePow, Nat.reduceBEq, Int.reduceToNat, List.reduceReplicate]
  repeat with_reducible refine cj ?_ ?_
  all_goals try first | omega
  refine hK4 _ _ _ ?_; clear hK4
  refine AW.seq fun K5 hK5 => ?_
  -- cond 1
  refine AW.cond rfl (by simp only [go_sem, reduceIte, reduceCtorEq, Nat.reduceAdd, Nat.reduceMul, Nat.reduceEqDiff, Nat.reduceLT, Nat.reduceLeDiff, Nat.reduceSub, Nat.reducePow, Nat.reduceBEq, Int.reduceToNat, List.reduceReplicate]) ?_ ?_
  · intro hb
    try simp only [hB, decide_eq_true_eq, decide_eq_false_iff_not] at hb
    obtain ⟨x, hx⟩ := getI (l := rs) (j := j) (by omega)
    have hgx := getV (f := rowV) hx
    have hats := any_take_succ (p := longW) hx
    have hbx := hbp x (List.mem_of_getElem? hx)
    refine AW.skip ?_
    refine hK5 _ _ _ ?_; clear hK5
    refine AW.seq fun K6 hK6 => ?_
    refine AW.block ?_
    refine AW.seq fun K7 hK7 => ?_
    -- region 3
    refine AW.regionK 0 (fun _ => none) [0, 1, 5, 7, 8] [] ?_
    simp only [go_sem, reduceIte, reduceCtorEq, Nat.reduceAdd, Nat.reduceMul, Nat.reduceEqDiff, Nat.reduceLT, Nat.reduceLeDiff, Nat.reduceSub, Nat.reducePow, Nat.reduceBEq, Int.reduceToNat, List.reduceReplicate]
    repeat with_reducible refine cj ?_ ?_
    all_goals try first | omega
    refine hK7 _ _ _ ?_; clear hK7
    refine AW.seq fun K8 hK8 => ?_
    -- region 4
    refine AW.regionK 0 (fun ii => if ii = 5 then some (.reads false (.bool (longW x))) else none) [0, 1, 5, 7, 8, 16] [] ?_
    simp only [go_sem, reduceIte, reduceCtorEq, Nat.reduceAdd, Nat.reduceMul, Nat.reduceEqDiff, Nat.reduceLT, Nat.reduceLeDiff, Nat.reduceSub, Nat.reducePow, Nat.reduceBEq, Int.reduceToNat, List.reduceReplicate, hgx, rowV]
    repeat with_reducible refine cj ?_ ?_
    all_goals try first | (exact hbx) | omega | exact ent (by kernel_rfl)
    refine hK8 _ _ _ ?_; clear hK8
    -- cond 2
    refine AW.cond rfl (by simp only [go_sem, reduceIte, reduceCtorEq, Nat.reduceAdd, Nat.reduceMul, Nat.reduceEqDiff, Nat.reduceLT, Nat.reduceLeDiff, Nat.reduceSub, Nat.reducePow, Nat.reduceBEq, Int.reduceToNat, List.reduceReplicate]) ?_ ?_
    · intro hb
      try simp only [hB, decide_eq_true_eq, decide_eq_false_iff_not] at hb
      refine AW.seq fun K9 hK9 => ?_
      -- region 5
      refine AW.regionK 0 (fun _ => none) [4] [] ?_
      simp only [go_sem, reduceIte, reduceCtorEq, Nat.reduceAdd, Nat.reduceMul, Nat.reduceEqDiff, Nat.reduceLT, Nat.reduceLeDiff, Nat.reduceSub, Nat.reducePow, Nat.reduceBEq, Int.reduceToNat, List.reduceReplicate]
      repeat with_reducible refine cj ?_ ?_
      all_goals try first | omega
      refine hK9 _ _ _ ?_; clear hK9
      refine AW.ret ?_
      rw [← hQl1]
      rw [← hQr]
      simp only [go_sem, reduceIte, reduceCtorEq, Nat.reduceAdd, Nat.reduceMul, Nat.reduceEqDiff, Nat.reduceLT, Nat.reduceLeDiff, Nat.reduceSub, Nat.reducePow, Nat.reduceBEq, Int.reduceToNat, List.reduceReplicate]
      exact Wk.of_eq (by rw [ixf_at hx hb hall])
    · intro hb
      try simp only [hB, decide_eq_true_eq, decide_eq_false_iff_not] at hb
      refine AW.skip ?_
      refine hK6 _ _ _ ?_; clear hK6
      -- region 6
      refine AW.regionK 0 (fun _ => none) [0, 1, 7, 8] [] ?_
      simp only [go_sem, reduceIte, reduceCtorEq, Nat.reduceAdd, Nat.reduceMul, Nat.reduceEqDiff, Nat.reduceLT, Nat.reduceLeDiff, Nat.reduceSub, Nat.reducePow, Nat.reduceBEq, Int.reduceToNat, List.reduceReplicate]
      repeat with_reducible refine cj ?_ ?_
      all_goals try first | omega
      rw [← hQl1]
      change Exists _
      refine ⟨_, ?hm, j + 1, rfl, ?henv, ?hstore, ?hst⟩
      case henv =>
        repeat' (first | rfl | refine env_cons ?_ ?_ | refine st_cons ?_ ?_ ?_ ?_ | refine int_eq ?_ | refine bool_eq ?_ | refine rsl_eq ?_ | refine osl_eq ?_ | refine sl_eq ?_ ?_ ?_ | refine ptr_eq ?_ ?_ ?_ | refine agg_eq ?_ | refine es_cons ?_ ?_ | refine row_cons ?_ ?_)
        all_goals (first | (simp; done) | omega | (simp; omega))
      case hstore =>
        repeat' (first | rfl | refine env_cons ?_ ?_ | refine st_cons ?_ ?_ ?_ ?_ | refine int_eq ?_ | refine bool_eq ?_ | refine rsl_eq ?_ | refine osl_eq ?_ | refine sl_eq ?_ ?_ ?_ | refine ptr_eq ?_ ?_ ?_ | refine agg_eq ?_ | refine es_cons ?_ ?_ | refine row_cons ?_ ?_)
        all_goals (first | (simp; done) | omega | (simp; omega))
      case hst =>
        exact ⟨by omega, by rw [hats, hall, hb]; rfl⟩
      case hm => omega
  · intro hb
    try simp only [hB, decide_eq_true_eq, decide_eq_false_iff_not] at hb
    refine AW.keep [] [] ?_
    try simp only [go_sem, reduceIte, reduceCtorEq, Nat.reduceAdd, Nat.reduceMul, Nat.reduceEqDiff, Nat.reduceLT, Nat.reduceLeDiff, Nat.reduceSub, Nat.reducePow, Nat.reduceBEq, Int.reduceToNat, List.reduceReplicate]
    refine AW.exit ?_
    rw [← hQl1]
    refine hK2 _ _ _ ?_; clear hK2
    refine AW.seq fun K10 hK10 => ?_
    -- region 7
    refine AW.regionK 0 (fun _ => none) [4] [] ?_
    simp only [go_sem, reduceIte, reduceCtorEq, Nat.reduceAdd, Nat.reduceMul, Nat.reduceEqDiff, Nat.reduceLT, Nat.reduceLeDiff, Nat.reduceSub, Nat.reducePow, Nat.reduceBEq, Int.reduceToNat, List.reduceReplicate]
    repeat with_reducible refine cj ?_ ?_
    all_goals try first | omega
    refine hK10 _ _ _ ?_; clear hK10
    refine AW.ret ?_
    rw [← hQr]
    simp only [go_sem, reduceIte, reduceCtorEq, Nat.reduceAdd, Nat.reduceMul, Nat.reduceEqDiff, Nat.reduceLT, Nat.reduceLeDiff, Nat.reduceSub, Nat.reducePow, Nat.reduceBEq, Int.reduceToNat, List.reduceReplicate]
    exact Wk.of_eq (by rw [List.take_of_length_le (by omega)] at hall; rw [ixf_none hall])
theorem ctfew_r (rs : List USet) (hl : longR rs) : Reads Tryd.prog 45 false [.rsl 2 (rs.map rowV), .fn 46 []] (.bool (rs.any longW)) := by
  have h := ixfew_r rs hl
  have hge := ixf_ge longW rs
  refine Reads.body (rs := [.tmp 4]) Tryd.func45 rfl Tryd.ntmps45 rfl (by simp) ?_
  generalize hQr : retQ _ _ _ = Qr
  refine AW.seq fun K1 hK1 => ?_
  -- region 0
  refine AW.regionK 0 (fun _ => none) [0, 1] [] ?_
  simp only [go_sem, reduceIte, reduceCtorEq, Nat.reduceAdd, Nat.reduceMul, Nat.reduceEqDiff, Nat.reduceLT, Nat.reduceLeDiff, Nat.reduceSub, Nat.reducePow, Nat.reduceBEq, Int.reduceToNat, List.reduceReplicate]
  repeat with_reducible refine cj ?_ ?_
  all_goals try first | omega
  refine hK1 _ _ _ ?_; clear hK1
  refine AW.seq fun K2 hK2 => ?_
  -- region 1
  refine AW.regionK 0 (fun ii => if ii = 2 then some (.reads false (.int .i64 (ixf longW rs))) else none) [4] [] ?_
  simp only [go_sem, reduceIte, reduceCtorEq, Nat.reduceAdd, Nat.reduceMul, Nat.reduceEqDiff, Nat.reduceLT, Nat.reduceLeDiff, Nat.reduceSub, Nat.reducePow, Nat.reduceBEq, Int.reduceToNat, List.reduceReplicate]
  repeat with_reducible refine cj ?_ ?_
  all_goals try first | (exact h) | omega | exact ent (by kernel_rfl)
  refine hK2 _ _ _ ?_; clear hK2
  refine AW.ret ?_
  rw [← hQr]
  simp only [go_sem, reduceIte, reduceCtorEq, Nat.reduceAdd, Nat.reduceMul, Nat.reduceEqDiff, Nat.reduceLT, Nat.reduceLeDiff, Nat.reduceSub, Nat.reducePow, Nat.reduceBEq, Int.reduceToNat, List.reduceReplicate]
  exact Wk.of_eq (by rw [hge])
def fewB (rs : List USet) : Bool := decide ((rs.length : Int) ≤ 40) && !rs.any longW
theorem few_r (rs : List USet) (hl : longR rs) : Reads Tryd.prog 12 false [relV rs] (.bool (fewB rs)) := by
  have h := Reads.flat (ctfew_r rs hl) rfl
  have hl1 := hl.1
  unfold relV
  refine Reads.body (rs := [.tmp 2]) Tryd.func12 rfl Tryd.ntmps12 rfl (by simp) ?_
  generalize hQr : retQ _ _ _ = Qr
  refine AW.seq fun K1 hK1 => ?_
  -- region 0
  refine AW.regionK 0 (fun _ => none) [1] [1] ?_
  simp only [go_sem, reduceIte, reduceCtorEq, Nat.reduceAdd, Nat.reduceMul, Nat.reduceEqDiff, Nat.reduceLT, Nat.reduceLeDiff, Nat.reduceSub, Nat.reducePow, Nat.reduceBEq, Int.reduceToNat, List.reduceReplicate]
  repeat with_reducible refine cj ?_ ?_
  all_goals try first | omega
  refine hK1 _ _ _ ?_; clear hK1
  refine AW.seq fun K2 hK2 => ?_
  -- region 1
  refine AW.regionK 0 (fun ii => if ii = 7 then some (.reads true (.bool (rs.any longW))) else none) [2] [] ?_
  simp only [go_sem, reduceIte, reduceCtorEq, Nat.reduceAdd, Nat.reduceMul, Nat.reduceEqDiff, Nat.reduceLT, Nat.reduceLeDiff, Nat.reduceSub, Nat.reducePow, Nat.reduceBEq, Int.reduceToNat, List.reduceReplicate]
  repeat with_reducible refine cj ?_ ?_
  all_goals try first | ((intro hh; exact ⟨hh, h⟩)) | (intros; (repeat' apply And.intro) <;> first | assumption | ((intro hh; exact ⟨hh, h⟩))) | omega | exact ent (by kernel_rfl) | (intro hgd; exact absurd hgd (by decide)) | rfl | (simp only [go_sem, reduceIte, reduceCtorEq, Nat.reduceAdd, Nat.reduceMul, Nat.reduceEqDiff, Nat.reduceLT, Nat.reduceLeDiff, Nat.reduceSub, Nat.reducePow, Nat.reduceBEq, Int.reduceToNat, List.reduceReplicate]; done) | (intro _hgd; simp_all [go_sem]; done)
  refine hK2 _ _ _ ?_; clear hK2
  refine AW.ret ?_
  rw [← hQr]
  simp only [go_sem, reduceIte, reduceCtorEq, Nat.reduceAdd, Nat.reduceMul, Nat.reduceEqDiff, Nat.reduceLT, Nat.reduceLeDiff, Nat.reduceSub, Nat.reducePow, Nat.reduceBEq, Int.reduceToNat, List.reduceReplicate]
  exact Wk.of_eq (by unfold fewB; rfl)
theorem none_r (es : List (List AV)) (hl : es.length ≤ 9223372036854775807) : Reads Tryd.prog 16 false [.agg [.rsl 2 es]] (.bool (decide ((es.length : Int) = 0))) := by
  refine Reads.body (rs := [.tmp 2]) Tryd.func16 rfl Tryd.ntmps16 rfl (by simp) ?_
  generalize hQr : retQ _ _ _ = Qr
  refine AW.seq fun K1 hK1 => ?_
  -- region 0
  refine AW.regionK 0 (fun _ => none) [1] [1] ?_
  simp only [go_sem, reduceIte, reduceCtorEq, Nat.reduceAdd, Nat.reduceMul, Nat.reduceEqDiff, Nat.reduceLT, Nat.reduceLeDiff, Nat.reduceSub, Nat.reducePow, Nat.reduceBEq, Int.reduceToNat, List.reduceReplicate]
  repeat with_reducible refine cj ?_ ?_
  all_goals try first | omega
  refine hK1 _ _ _ ?_; clear hK1
  refine AW.seq fun K2 hK2 => ?_
  -- region 1
  refine AW.regionK 0 (fun _ => none) [2] [] ?_
  simp only [go_sem, reduceIte, reduceCtorEq, Nat.reduceAdd, Nat.reduceMul, Nat.reduceEqDiff, Nat.reduceLT, Nat.reduceLeDiff, Nat.reduceSub, Nat.reducePow, Nat.reduceBEq, Int.reduceToNat, List.reduceReplicate]
  repeat with_reducible refine cj ?_ ?_
  all_goals try first | omega
  refine hK2 _ _ _ ?_; clear hK2
  refine AW.ret ?_
  rw [← hQr]
  simp only [go_sem, reduceIte, reduceCtorEq, Nat.reduceAdd, Nat.reduceMul, Nat.reduceEqDiff, Nat.reduceLT, Nat.reduceLeDiff, Nat.reduceSub, Nat.reducePow, Nat.reduceBEq, Int.reduceToNat, List.reduceReplicate]
  exact Wk.refl _
theorem noset_r : Reads Tryd.prog 34 false [.agg [.int .i64 0, .rsl 1 []]] (.bool true) := by
  refine Reads.body (rs := [.tmp 2]) Tryd.func34 rfl Tryd.ntmps34 rfl (by simp) ?_
  generalize hQr : retQ _ _ _ = Qr
  refine AW.seq fun K1 hK1 => ?_
  -- region 0
  refine AW.regionK 0 (fun _ => none) [1] [1] ?_
  simp only [go_sem, reduceIte, reduceCtorEq, Nat.reduceAdd, Nat.reduceMul, Nat.reduceEqDiff, Nat.reduceLT, Nat.reduceLeDiff, Nat.reduceSub, Nat.reducePow, Nat.reduceBEq, Int.reduceToNat, List.reduceReplicate]
  repeat with_reducible refine cj ?_ ?_
  all_goals try first | omega
  refine hK1 _ _ _ ?_; clear hK1
  refine AW.seq fun K2 hK2 => ?_
  -- region 1
  refine AW.regionK 0 (fun _ => none) [2] [] ?_
  simp only [go_sem, reduceIte, reduceCtorEq, Nat.reduceAdd, Nat.reduceMul, Nat.reduceEqDiff, Nat.reduceLT, Nat.reduceLeDiff, Nat.reduceSub, Nat.reducePow, Nat.reduceBEq, Int.reduceToNat, List.reduceReplicate]
  repeat with_reducible refine cj ?_ ?_
  all_goals try first | omega | (intros; (repeat' apply And.intro) <;> first | assumption | omega | decide) | (intro hgd; exact absurd hgd (by decide)) | rfl | (simp only [go_sem, reduceIte, reduceCtorEq, Nat.reduceAdd, Nat.reduceMul, Nat.reduceEqDiff, Nat.reduceLT, Nat.reduceLeDiff, Nat.reduceSub, Nat.reducePow, Nat.reduceBEq, Int.reduceToNat, List.reduceReplicate]; done) | (intro _hgd; simp_all [go_sem]; done)
  refine hK2 _ _ _ ?_; clear hK2
  refine AW.ret ?_
  rw [← hQr]
  simp only [go_sem, reduceIte, reduceCtorEq, Nat.reduceAdd, Nat.reduceMul, Nat.reduceEqDiff, Nat.reduceLT, Nat.reduceLeDiff, Nat.reduceSub, Nat.reducePow, Nat.reduceBEq, Int.reduceToNat, List.reduceReplicate]
  exact Wk.of_eq (by simp)
theorem eqi_refl (l : List Int) (hl : l.length ≤ 9223372036854775807) : Reads Tryd.prog 37 false [.rsl 1 (ints l), .rsl 1 (ints l)] (.bool true) := by
  refine Reads.body (rs := [.tmp 4]) Tryd.func37 rfl Tryd.ntmps37 rfl (by simp) ?_
  generalize hQr : retQ _ _ _ = Qr
  refine AW.seq fun K1 hK1 => ?_
  -- region 0
  refine AW.regionK 0 (fun _ => none) [0, 1] [] ?_
  simp only [go_sem, reduceIte, reduceCtorEq, Nat.reduceAdd, Nat.reduceMul, Nat.reduceEqDiff, Nat.reduceLT, Nat.reduceLeDiff, Nat.reduceSub, Nat.reducePow, Nat.reduceBEq, Int.reduceToNat, List.reduceReplicate]
  repeat with_reducible refine cj ?_ ?_
  all_goals try first | omega
  refine hK1 _ _ _ ?_; clear hK1
  refine AW.seq fun K2 hK2 => ?_
  refine AW.seq fun K3 hK3 => ?_
  -- region 1
  refine AW.regionK 0 (fun _ => none) [0, 1, 10] [] ?_
  simp only [go_sem, reduceIte, reduceCtorEq, Nat.reduceAdd, Nat.reduceMul, Nat.reduceEqDiff, Nat.reduceLT, Nat.reduceLeDiff, Nat.reduceSub, Nat.reducePow, Nat.reduceBEq, Int.reduceToNat, List.reduceReplicate]
  repeat with_reducible refine cj ?_ ?_
  all_goals try first | omega
  refine hK3 _ _ _ ?_; clear hK3
  -- cond 1
  refine AW.cond rfl (by simp only [go_sem, reduceIte, reduceCtorEq, Nat.reduceAdd, Nat.reduceMul, Nat.reduceEqDiff, Nat.reduceLT, Nat.reduceLeDiff, Nat.reduceSub, Nat.reducePow, Nat.reduceBEq, Int.reduceToNat, List.reduceReplicate]) ?_ ?_
  · intro hb
    try simp only [hB, decide_eq_true_eq, decide_eq_false_iff_not] at hb
    exfalso; simp at hb
  · intro hb
    try simp only [hB, decide_eq_true_eq, decide_eq_false_iff_not] at hb
    refine AW.skip ?_
    refine hK2 _ _ _ ?_; clear hK2
    refine AW.seq fun K4 hK4 => ?_
    refine AW.seq fun K5 hK5 => ?_
    -- region 3
    refine AW.regionK 0 (fun _ => none) [0, 1, 12, 13] [] ?_
    simp only [go_sem, reduceIte, reduceCtorEq, Nat.reduceAdd, Nat.reduceMul, Nat.reduceEqDiff, Nat.reduceLT, Nat.reduceLeDiff, Nat.reduceSub, Nat.reducePow, Nat.reduceBEq, Int.reduceToNat, List.reduceReplicate]
    repeat with_reducible refine cj ?_ ?_
    all_goals try first | omega
    refine hK5 _ _ _ ?_; clear hK5
    refine AW.block ?_
    -- loop 1
    refine AW.loopE (fun mm ee ss kk => ∃ (j : Nat), l.length - j = mm ∧ ee = [(0, .rsl 1 (ints l)), (1, .rsl 1 (ints l)), (12, .int .i64 l.length), (13, .int .i64 (j : Nat))] ∧ ss = [] ∧ (j ≤ l.length)) ?_ ?_
    · refine ⟨_, 0, rfl, ?henv, ?hstore, ?hst⟩
      case henv =>
        repeat' (first | rfl | refine env_cons ?_ ?_ | refine st_cons ?_ ?_ ?_ ?_ | refine int_eq ?_ | refine bool_eq ?_ | refine rsl_eq ?_ | refine osl_eq ?_ | refine sl_eq ?_ ?_ ?_ | refine ptr_eq ?_ ?_ ?_ | refine agg_eq ?_ | refine es_cons ?_ ?_ | refine row_cons ?_ ?_)
        all_goals (first | (simp; done) | omega | (simp; omega))
      case hstore =>
        repeat' (first | rfl | refine env_cons ?_ ?_ | refine st_cons ?_ ?_ ?_ ?_ | refine int_eq ?_ | refine bool_eq ?_ | refine rsl_eq ?_ | refine osl_eq ?_ | refine sl_eq ?_ ?_ ?_ | refine ptr_eq ?_ ?_ ?_ | refine agg_eq ?_ | refine es_cons ?_ ?_ | refine row_cons ?_ ?_)
        all_goals (first | (simp; done) | omega | (simp; omega))
      case hst =>
        first | trivial | omega | (simp; done) | (simp; omega)
    rintro mm ee ss kk ⟨j, rfl, rfl, rfl, hI⟩
    generalize hQl1 : thenQ _ _ = Ql1
    refine AW.seq fun K6 hK6 => ?_
    -- region 4
    refine AW.regionK 0 (fun _ => none) [0, 1, 12, 13, 14] [] ?_
    simp only [go_sem, reduceIte, reduceCtorEq, Nat.reduceAdd, Nat.reduceMul, Nat.reduceEqDiff, Nat.reduceLT, Nat.reduceLeDiff, Nat.reduceSub, Nat.reducePow, Nat.reduceBEq, Int.reduceToNat, List.reduceReplicate]
    repeat with_reducible refine cj ?_ ?_
    all_goals try first | omega
    refine hK6 _ _ _ ?_; clear hK6
    refine AW.seq fun K7 hK7 => ?_
    -- cond 2
    refine AW.cond rfl (by simp only [go_sem, reduceIte, reduceCtorEq, Nat.reduceAdd, Nat.reduceMul, Nat.reduceEqDiff, Nat.reduceLT, Nat.reduceLeDiff, Nat.reduceSub, Nat.reducePow, Nat.reduceBEq, Int.reduceToNat, List.reduceReplicate]) ?_ ?_
    · intro hb
      try simp only [hB, decide_eq_true_eq, decide_eq_false_iff_not] at hb
      have hgl := ints_getD (l := l) (i := j) (by omega)
      refine AW.skip ?_
      refine hK7 _ _ _ ?_; clear hK7
      refine AW.seq fun K8 hK8 => ?_
      refine AW.block ?_
      refine AW.seq fun K9 hK9 => ?_
      -- region 5
      refine AW.regionK 0 (fun _ => none) [0, 1, 5, 12, 13] [] ?_
      simp only [go_sem, reduceIte, reduceCtorEq, Nat.reduceAdd, Nat.reduceMul, Nat.reduceEqDiff, Nat.reduceLT, Nat.reduceLeDiff, Nat.reduceSub, Nat.reducePow, Nat.reduceBEq, Int.reduceToNat, List.reduceReplicate]
      repeat with_reducible refine cj ?_ ?_
      all_goals try first | omega
      refine hK9 _ _ _ ?_; clear hK9
      refine AW.seq fun K10 hK10 => ?_
      -- region 6
      refine AW.regionD mixed 0 (fun _ => none) [0, 1, 12, 13, 24] [] ?_
      simp only [go_sem, reduceIte, reduceCtorEq, Nat.reduceAdd, Nat.reduceMul, Nat.reduceEqDiff, Nat.reduceLT, Nat.reduceLeDiff, Nat.reduceSub, Nat.reducePow, Nat.reduceBEq, Int.reduceToNat, List.reduceReplicate, hgl]
      repeat with_reducible refine cj ?_ ?_
      all_goals try first | omega | exact chk (by kernel_rfl)
      refine hK10 _ _ _ ?_; clear hK10
      -- cond 3
      refine AW.cond rfl (by simp only [go_sem, reduceIte, reduceCtorEq, Nat.reduceAdd, Nat.reduceMul, Nat.reduceEqDiff, Nat.reduceLT, Nat.reduceLeDiff, Nat.reduceSub, Nat.reducePow, Nat.reduceBEq, Int.reduceToNat, List.reduceReplicate]) ?_ ?_
      · intro hb
        try simp only [hB, decide_eq_true_eq, decide_eq_false_iff_not] at hb
        exfalso; simp at hb
      · intro hb
        try simp only [hB, decide_eq_true_eq, decide_eq_false_iff_not] at hb
        refine AW.skip ?_
        refine hK8 _ _ _ ?_; clear hK8
        -- region 8
        refine AW.regionK 0 (fun _ => none) [0, 1, 12, 13] [] ?_
        simp only [go_sem, reduceIte, reduceCtorEq, Nat.reduceAdd, Nat.reduceMul, Nat.reduceEqDiff, Nat.reduceLT, Nat.reduceLeDiff, Nat.reduceSub, Nat.reducePow, Nat.reduceBEq, Int.reduceToNat, List.reduceReplicate]
        repeat with_reducible refine cj ?_ ?_
        all_goals try first | omega
        rw [← hQl1]
        change Exists _
        refine ⟨_, ?hm, j + 1, rfl, ?henv, ?hstore, ?hst⟩
        case henv =>
          repeat' (first | rfl | refine env_cons ?_ ?_ | refine st_cons ?_ ?_ ?_ ?_ | refine int_eq ?_ | refine bool_eq ?_ | refine rsl_eq ?_ | refine osl_eq ?_ | refine sl_eq ?_ ?_ ?_ | refine ptr_eq ?_ ?_ ?_ | refine agg_eq ?_ | refine es_cons ?_ ?_ | refine row_cons ?_ ?_)
          all_goals (first | (simp; done) | omega | (simp; omega))
        case hstore =>
          repeat' (first | rfl | refine env_cons ?_ ?_ | refine st_cons ?_ ?_ ?_ ?_ | refine int_eq ?_ | refine bool_eq ?_ | refine rsl_eq ?_ | refine osl_eq ?_ | refine sl_eq ?_ ?_ ?_ | refine ptr_eq ?_ ?_ ?_ | refine agg_eq ?_ | refine es_cons ?_ ?_ | refine row_cons ?_ ?_)
          all_goals (first | (simp; done) | omega | (simp; omega))
        case hst =>
          first | trivial | omega | (simp; done) | (simp; omega)
        case hm => omega
    · intro hb
      try simp only [hB, decide_eq_true_eq, decide_eq_false_iff_not] at hb
      refine AW.keep [] [] ?_
      try simp only [go_sem, reduceIte, reduceCtorEq, Nat.reduceAdd, Nat.reduceMul, Nat.reduceEqDiff, Nat.reduceLT, Nat.reduceLeDiff, Nat.reduceSub, Nat.reducePow, Nat.reduceBEq, Int.reduceToNat, List.reduceReplicate]
      refine AW.exit ?_
      rw [← hQl1]
      refine hK4 _ _ _ ?_; clear hK4
      refine AW.seq fun K11 hK11 => ?_
      -- region 9
      refine AW.regionK 0 (fun _ => none) [4] [] ?_
      simp only [go_sem, reduceIte, reduceCtorEq, Nat.reduceAdd, Nat.reduceMul, Nat.reduceEqDiff, Nat.reduceLT, Nat.reduceLeDiff, Nat.reduceSub, Nat.reducePow, Nat.reduceBEq, Int.reduceToNat, List.reduceReplicate]
      repeat with_reducible refine cj ?_ ?_
      all_goals try first | omega
      refine hK11 _ _ _ ?_; clear hK11
      refine AW.ret ?_
      rw [← hQr]
      simp only [go_sem, reduceIte, reduceCtorEq, Nat.reduceAdd, Nat.reduceMul, Nat.reduceEqDiff, Nat.reduceLT, Nat.reduceLeDiff, Nat.reduceSub, Nat.reducePow, Nat.reduceBEq, Int.reduceToNat, List.reduceReplicate]
      exact Wk.refl _
def exT : List (List Bool) := [[false, true, true, false], [false, false, true, false], [false, false, false, false], [false, false, true, false]]
def exC : List (List Bool) := [[false, true, false, false], [false, false, true, false], [false, false, false, false], [false, false, true, false]]
theorem exT_sq : Sq 4 exT := ⟨rfl, by decide⟩
theorem exC_sq : Sq 4 exC := ⟨rfl, by decide⟩
theorem exT_po : poB 4 exT = true := by decide
theorem exT_cov : covT 4 exT = exC := by decide
theorem exT_lev : levO 4 exT = [0, 1, 2, 0] := by decide
theorem exT_down : upT 4 (invT 4 exT) [false, true, false, false] = [true, true, false, false] := by decide
def Y4 (a b c d : Bool) : List (List AV) := words (setW [a, b, c, d] 4)
theorem rowB4 (a b c d : Bool) : rowB [a, b, c, d] = [.int .i64 4, .rsl 1 (Y4 a b c d)] := rfl
theorem longR_SB {n : Nat} {t : List (List Bool)} (hs : Sq n t) (hn : n ≤ 512) : longR (t.map SB) := ⟨by simp [hs.len]; omega, fun x hx => by
  obtain ⟨b, hb, rfl⟩ := List.mem_map.1 hx
  have := setB_len (b := b) (by rw [hs.row b hb]; exact hn)
  show (setW b b.length).length ≤ _; omega⟩
theorem rsamet_r {n : Nat} {t : List (List Bool)} (hs : Sq n t) (hn : n ≤ 512) : Reads Tryd.prog 18 false [relB t, relB t] (.bool true) := by
  have h := rsamer_r (t.map SB) (longR_SB hs hn)
  rw [← relB_SB] at h
  exact h
theorem rsameb_r (b : List Bool) (hb : b.length ≤ 512) : Reads Tryd.prog 23 false [.agg (rowB b), .agg (rowB b)] (.bool true) := rsame_r b.length (setW b b.length) (by have := setB_len hb; omega)
theorem awake_r : Reads Tryd.prog 11 false [] (.bool true) := by
  have s12 := set_r [1, 2] (by decide) (by decide)
  have s2 := set_r [2] (by decide) (by decide)
  have s1 := set_r [1] (by decide) (by decide)
  have s01 := set_r [0, 1] (by decide) (by decide)
  have s0 := (set_r [] (by decide) (by simp)).wk (args := [.nilsl]) (.cons (Wk.nil 1) .nil) (Wk.refl _)
  rw [show rowL 4 [1, 2] = [false, true, true, false] from rfl] at s12
  rw [show rowL 4 [2] = [false, false, true, false] from rfl] at s2
  rw [show rowL 4 [1] = [false, true, false, false] from rfl] at s1
  rw [show rowL 4 [0, 1] = [true, true, false, false] from rfl] at s01
  rw [show rowL 4 [] = [false, false, false, false] from rfl] at s0
  have hv := pvalid_g 4 exT exT_sq (by decide)
  rw [exT_po] at hv
  have hc := covers_g 4 exT exT_sq (by decide) exT_po
  rw [exT_cov] at hc
  have hl := levels_g 4 exT exT_sq (by decide) exT_po
  rw [exT_lev] at hl
  have hd := down_g 4 exT exT_sq (by decide) exT_po [false, true, false, false] rfl
  rw [exT_down] at hd
  have hsm := Reads.flat (rsamet_r exC_sq (by decide)) rfl
  have hsb := Reads.flat (rsameb_r [true, true, false, false] (by decide)) rfl
  have heq := Reads.flat (eqi_refl [0, 1, 2, 0] (by decide)) rfl
  simp only [relB, exT, exC, tabR, List.map_cons, List.map_nil, rowB4, ints] at s12 s2 s1 s01 s0 hv hc hl hd hsm hsb heq
  refine Reads.body (rs := [.tmp 0]) Tryd.func11 rfl Tryd.ntmps11 rfl (by simp) ?_
  generalize hQr : retQ _ _ _ = Qr
  refine AW.seq fun K1 hK1 => ?_
  -- region 0
  refine AW.regionK 0 (fun _ => none) [] [] ?_
  simp only [go_sem, reduceIte, reduceCtorEq, Nat.reduceAdd, Nat.reduceMul, Nat.reduceEqDiff, Nat.reduceLT, Nat.reduceLeDiff, Nat.reduceSub, Nat.reducePow, Nat.reduceBEq, Int.reduceToNat, List.reduceReplicate]
  repeat with_reducible refine cj ?_ ?_
  all_goals try first | omega
  refine hK1 _ _ _ ?_; clear hK1
  refine AW.seq fun K2 hK2 => ?_
  -- region 1
  refine AW.regionG 0 (fun ii => if ii = 1 then some (.reads true (.agg [.int .i64 4, .rsl 1 (Y4 false true true false)])) else if ii = 3 then some (.reads true (.agg [.int .i64 4, .rsl 1 (Y4 false false true false)])) else if ii = 4 then some (.reads true (.agg [.int .i64 4, .rsl 1 (Y4 false false false false)])) else if ii = 6 then some (.reads true (.agg [.int .i64 4, .rsl 1 (Y4 false false true false)])) else none) (fun ii => if ii = 8 then some ([15], [15]) else none) [1] [1, 15] ?_
  simp only [go_sem, reduceIte, reduceCtorEq, Nat.reduceAdd, Nat.reduceMul, Nat.reduceEqDiff, Nat.reduceLT, Nat.reduceLeDiff, Nat.reduceSub, Nat.reducePow, Nat.reduceBEq, Int.reduceToNat, List.reduceReplicate]
  repeat with_reducible refine cj ?_ ?_
  all_goals try first | (first | exact s12 | exact s2 | exact s0) | omega | exact ent (by kernel_rfl)
  refine hK2 _ _ _ ?_; clear hK2
  refine AW.seq fun K3 hK3 => ?_
  -- region 2
  refine AW.regionK 0 (fun ii => if ii = 1 then some (.reads false (.tup [.agg [.rsl 2 [[.int .i64 4, .rsl 1 (Y4 false true false false)], [.int .i64 4, .rsl 1 (Y4 false false true false)], [.int .i64 4, .rsl 1 (Y4 false false false false)], [.int .i64 4, .rsl 1 (Y4 false false true false)]]], .int .i64 ((0 : Nat) : Int)])) else none) [1, 2, 3] [1, 2, 15] ?_
  simp only [go_sem, reduceIte, reduceCtorEq, Nat.reduceAdd, Nat.reduceMul, Nat.reduceEqDiff, Nat.reduceLT, Nat.reduceLeDiff, Nat.reduceSub, Nat.reducePow, Nat.reduceBEq, Int.reduceToNat, List.reduceReplicate]
  repeat with_reducible refine cj ?_ ?_
  all_goals try first | (exact hc) | omega | exact ent (by kernel_rfl)
  refine hK3 _ _ _ ?_; clear hK3
  refine AW.seq fun K4 hK4 => ?_
  -- region 3
  refine AW.regionK 0 (fun ii => if ii = 1 then some (.reads false (.tup [.rsl 1 [[.int .i64 0], [.int .i64 1], [.int .i64 2], [.int .i64 0]], .int .i64 ((0 : Nat) : Int)])) else none) [1, 2, 3, 4, 5] [1, 2, 15] ?_
  simp only [go_sem, reduceIte, reduceCtorEq, Nat.reduceAdd, Nat.reduceMul, Nat.reduceEqDiff, Nat.reduceLT, Nat.reduceLeDiff, Nat.reduceSub, Nat.reducePow, Nat.reduceBEq, Int.reduceToNat, List.reduceReplicate]
  repeat with_reducible refine cj ?_ ?_
  all_goals try first | (exact hl) | omega | exact ent (by kernel_rfl)
  refine hK4 _ _ _ ?_; clear hK4
  refine AW.seq fun K5 hK5 => ?_
  -- region 4
  refine AW.regionD mixed 0 (fun ii => if ii = 2 then some (.upd [29] (fun _ => []) (fun _ => .agg [.int .i64 4, .rsl 1 (Y4 false true false false)])) else if ii = 3 then some (.reads false (.tup [.agg [.int .i64 4, .rsl 1 (Y4 true true false false)], .int .i64 ((0 : Nat) : Int)])) else none) [1, 2, 3, 4, 5, 6, 7] [1, 2, 6, 15] ?_
  simp only [go_sem, reduceIte, reduceCtorEq, Nat.reduceAdd, Nat.reduceMul, Nat.reduceEqDiff, Nat.reduceLT, Nat.reduceLeDiff, Nat.reduceSub, Nat.reducePow, Nat.reduceBEq, Int.reduceToNat, List.reduceReplicate]
  repeat with_reducible refine cj ?_ ?_
  all_goals try first | (first | exact s1.upd rfl | exact hd) | omega | exact chk (by kernel_rfl) | exact ent (by kernel_rfl)
  refine hK5 _ _ _ ?_; clear hK5
  refine AW.seq fun K6 hK6 => ?_
  -- region 5
  refine AW.regionD mixed 0 (fun ii => if ii = 1 then some (.reads false (.bool true)) else if ii = 9 then some (.upd [42] (fun _ => []) (fun _ => .agg [.int .i64 4, .rsl 1 (Y4 false true false false)])) else if ii = 11 then some (.upd [44] (fun _ => []) (fun _ => .agg [.int .i64 4, .rsl 1 (Y4 false false true false)])) else if ii = 12 then some (.reads false (.agg [.int .i64 4, .rsl 1 (Y4 false false false false)])) else if ii = 14 then some (.upd [47] (fun _ => []) (fun _ => .agg [.int .i64 4, .rsl 1 (Y4 false false true false)])) else if ii = 17 then some (.upd [49] (fun _ => []) (fun _ => .bool true)) else if ii = 26 then some (.upd [59] (fun _ => []) (fun _ => .bool true)) else if ii = 35 then some (.upd [68] (fun _ => []) (fun _ => .agg [.int .i64 4, .rsl 1 (Y4 true true false false)])) else if ii = 36 then some (.reads false (.bool true)) else none) [0] [] ?_
  simp (maxSteps := 2000000) only [go_sem, reduceIte, reduceCtorEq, Nat.reduceAdd, Nat.reduceMul, Nat.reduceEqDiff, Nat.reduceLT, Nat.reduceLeDiff, Nat.reduceSub, Nat.reducePow, Nat.reduceBEq, Int.reduceToNat, List.reduceReplicate]
  repeat with_reducible refine cj ?_ ?_
  all_goals try first | (first | exact hv | exact s0.old | (intro hh; exact ⟨hh, s0.old⟩) | exact s1.upd rfl | exact s2.upd rfl | exact s01.upd rfl | exact hsm.upd rfl | exact heq.upd rfl | (intro hh; exact ⟨hh, hsb.old⟩)) | (intros; (repeat' apply And.intro) <;> first | assumption | (first | exact hv | exact s0.old | (intro hh; exact ⟨hh, s0.old⟩) | exact s1.upd rfl | exact s2.upd rfl | exact s01.upd rfl | exact hsm.upd rfl | exact heq.upd rfl | (intro hh; exact ⟨hh, hsb.old⟩))) | omega | exact chk (by kernel_rfl) | exact ent (by kernel_rfl) | (intro hgd; exact absurd hgd (by decide)) | rfl | (simp only [go_sem, reduceIte, reduceCtorEq, Nat.reduceAdd, Nat.reduceMul, Nat.reduceEqDiff, Nat.reduceLT, Nat.reduceLeDiff, Nat.reduceSub, Nat.reducePow, Nat.reduceBEq, Int.reduceToNat, List.reduceReplicate]; done) | (intro _hgd; simp_all [go_sem]; done)
  refine hK6 _ _ _ ?_; clear hK6
  refine AW.ret ?_
  rw [← hQr]
  simp only [go_sem, reduceIte, reduceCtorEq, Nat.reduceAdd, Nat.reduceMul, Nat.reduceEqDiff, Nat.reduceLT, Nat.reduceLeDiff, Nat.reduceSub, Nat.reducePow, Nat.reduceBEq, Int.reduceToNat, List.reduceReplicate]
  exact Wk.refl _
end Go.Proofs.P

/- Laws of orders. -/
namespace Go.AM
/-! ### Levels. -/
/-! ### Closed sets. -/
theorem upT_len (n : Nat) (t : List (List Bool)) (b : List Bool) : (upT n t b).length = n := setR_len _ _
theorem upT_get {n : Nat} {t : List (List Bool)} {b : List Bool} {j : Nat} (hj : j < n) : (upT n t b).getD j false = (b.getD j false || abvF n t b j) := setR_get hj
theorem upT_iff {n : Nat} {t : List (List Bool)} {b : List Bool} {j : Nat} (hj : j < n) : (upT n t b).getD j false = true ↔ b.getD j false = true ∨ ∃ i, i < n ∧ b.getD i false = true ∧ atT t i j = true := by
  rw [upT_get hj, Bool.or_eq_true]
  refine or_congr Iff.rfl ?_
  unfold abvF
  rw [List.any_eq_true]
  constructor
  · rintro ⟨i, h1, h2⟩; rw [Bool.and_eq_true] at h2; exact ⟨i, List.mem_range.1 h1, h2⟩
  · rintro ⟨i, h1, h2, h3⟩; exact ⟨i, List.mem_range.2 h1, by rw [h2, h3]; rfl⟩
end Go.AM

namespace Go.Proofs.P
open Go.AM Go
set_option maxRecDepth 100000
set_option maxHeartbeats 2000000
/-- No order. -/
def BadP (rs : List USet) : Prop := validR rs = false ∨ ∃ t, rs = t.map SB ∧ Sq rs.length t ∧ rs.length ≤ 512 ∧ poB rs.length t = false
theorem bad_valid (rs : List USet) (hl : longR rs) (hok : ∀ x ∈ rs, okW x.W) (hp : BadP rs) : Reads Tryd.prog 28 false [relV rs] (.bool false) ∧ Reads Tryd.prog 15 false [relV rs] (.bool false) := by
  rcases hp with hv | ⟨t, ht, hs, hn, h⟩
  · exact ⟨pvalid_e rs hl hv, rpvalid_e rs hl hok hv⟩
  · have h1 := pvalid_g _ t hs hn
    have h2 := rpvalid_g _ t hs hn
    rw [h] at h1 h2
    rw [ht, ← relB_SB]
    exact ⟨h1, h2⟩
/-- A relation is an order, or it is none. -/
theorem rel_cases (rs : List USet) (hok : ∀ x ∈ rs, okW x.W) : (∃ t, rs = t.map SB ∧ Sq rs.length t ∧ rs.length ≤ 512 ∧ poB rs.length t = true) ∨ BadP rs := by
  cases hv : validR rs
  · exact .inr (.inl hv)
  · obtain ⟨t, h1, hs, hn⟩ := rel_of hok hv
    cases hp : poB rs.length t
    · exact .inr (.inr ⟨t, h1, hs, hn, hp⟩)
    · exact .inl ⟨t, h1, hs, hn, hp⟩
end Go.Proofs.P

namespace Go.Proofs.P
open Go.AM Go
set_option maxRecDepth 100000
set_option maxHeartbeats 2000000
end Go.Proofs.P

namespace Go.Proofs.P
open Go.AM Go
set_option maxRecDepth 100000
set_option maxHeartbeats 2000000
/-- A relation and a set: an order with a set of its elements, or not. -/
theorem set_cases (rs : List USet) (hl : longR rs) (hok : ∀ x ∈ rs, okW x.W) (N : Int) (W : List Int) (hW : okW W) (hlW : W.length ≤ 9223372036854775807) :
    (∃ t b, rs = t.map SB ∧ Sq rs.length t ∧ rs.length ≤ 512 ∧ poB rs.length t = true ∧ b.length = rs.length ∧ N = (b.length : Int) ∧ W = setW b b.length) ∨
    (∃ v sv : Bool, Reads Tryd.prog 15 false [relV rs] (.bool v) ∧ Reads Tryd.prog 20 false [relV rs, .agg [.int .i64 N, .rsl 1 (words W)]] (.bool sv) ∧ (v && sv) = false ∧ Reads Tryd.prog 55 false [relV rs, .agg [.int .i64 N, .rsl 1 (words W)]] (.bool false)) := by
  have hset := rset_r (rs.map rowV) (by simpa using hl.1) N W hW hlW
  rw [List.length_map] at hset
  rcases rel_cases rs hok with ⟨t, ht, hs, hn, hp⟩ | hb
  · cases hv : validS N W && decide (N = (rs.length : Int))
    · right
      have hv1 := rpvalid_g _ t hs hn
      rw [hp, relB_SB, ← ht] at hv1
      rw [hv] at hset
      have hm := pmatch_g _ t N W hs hn hlW
      rw [hp, Bool.true_and, hv, relB_SB, ← ht] at hm
      exact ⟨true, false, hv1, hset, rfl, hm⟩
    · left
      rw [Bool.and_eq_true, decide_eq_true_eq] at hv
      obtain ⟨b, h1, h2⟩ := setW_of hW hv.1
      exact ⟨t, b, ht, hs, hn, hp, by omega, h1.symm, h2⟩
  · right
    obtain ⟨h1, h2⟩ := bad_valid rs hl hok hb
    exact ⟨false, _, h2, hset, rfl, pmatch_e (rs.map rowV) N W h1 hlW (by simpa using hl.1)⟩
end Go.Proofs.P

/- The reference's down-set: a list that grows behind its first part. -/
namespace Go.AM
def dnL (t : List (List Bool)) (M : List Nat) (i k : Nat) : List Int :=
  (M.map fun (i : Nat) => (i : Int)) ++ (((List.range i).flatMap fun a => (M.filter (atT t a)).map fun _ => (a : Int)) ++ ((M.take k).filter (atT t i)).map fun _ => (i : Int))
theorem dnL_zero (t : List (List Bool)) (M : List Nat) : dnL t M 0 0 = M.map fun (i : Nat) => (i : Int) := by simp [dnL]
theorem dnL_row (t : List (List Bool)) (M : List Nat) (i : Nat) : dnL t M i M.length = dnL t M (i + 1) 0 := by simp [dnL, List.range_succ]
theorem dnL_succ {t : List (List Bool)} {M : List Nat} {i k q : Nat} (hq : M[k]? = some q) : dnL t M i (k + 1) = if atT t i q = true then dnL t M i k ++ [(i : Int)] else dnL t M i k := by
  obtain ⟨h1, h2⟩ := List.getElem?_eq_some_iff.1 hq
  unfold dnL
  rw [List.take_succ_eq_append_getElem h1, h2, List.filter_append]
  simp only [List.filter_cons, List.filter_nil]
  split <;> simp
theorem dnL_take (t : List (List Bool)) (M : List Nat) (i k : Nat) : (dnL t M i k).take (M.map fun (i : Nat) => (i : Int)).length = M.map fun (i : Nat) => (i : Int) := by
  unfold dnL; rw [List.take_left]
theorem dnL_le (t : List (List Bool)) (M : List Nat) (i k : Nat) : (M.map fun (i : Nat) => (i : Int)).length ≤ (dnL t M i k).length := by
  unfold dnL; rw [List.length_append]; omega
theorem dnL_len (t : List (List Bool)) (M : List Nat) (i k : Nat) : (dnL t M i k).length ≤ M.length + i * M.length + M.length := by
  have h1 : ∀ m, ((List.range m).flatMap fun a => (M.filter (atT t a)).map fun _ => (a : Int)).length ≤ m * M.length := by
    intro m
    induction m with
    | zero => simp
    | succ m ih =>
      rw [List.range_succ, List.flatMap_append, List.length_append]
      have := List.length_filter_le (atT t m) M
      simp only [List.flatMap_cons, List.flatMap_nil, List.append_nil, List.length_map]
      rw [Nat.succ_mul]; omega
  have h2 := h1 i
  have h3 : ((M.take k).filter (atT t i)).length ≤ M.length := Nat.le_trans (List.length_filter_le _ _) (by simp; omega)
  unfold dnL
  simp only [List.length_append, List.length_map] at h2 ⊢
  omega
theorem dnL_mem {t : List (List Bool)} {M : List Nat} {n : Nat} {x : Int} : x ∈ dnL t M n 0 ↔ (∃ i, i ∈ M ∧ x = (i : Int)) ∨ ∃ a, a < n ∧ x = (a : Int) ∧ ∃ q, q ∈ M ∧ atT t a q = true := by
  unfold dnL
  simp only [List.take_zero, List.filter_nil, List.map_nil, List.append_nil, List.mem_append, List.mem_map, List.mem_flatMap, List.mem_range, List.mem_filter]
  constructor
  · rintro (⟨i, h1, h2⟩ | ⟨a, h1, q, ⟨h2, h3⟩, h4⟩)
    · exact .inl ⟨i, h1, h2.symm⟩
    · exact .inr ⟨a, h1, h4.symm, q, h2, h3⟩
  · rintro (⟨i, h1, h2⟩ | ⟨a, h1, h2, q, h3, h4⟩)
    · exact .inl ⟨i, h1, h2.symm⟩
    · exact .inr ⟨a, h1, q, ⟨h3, h4⟩, h2.symm⟩
theorem dnL_row_all {n : Nat} {t : List (List Bool)} {b : List Bool} (hb : b.length = n) : rowL n (dnL t (memB b) n 0) = upT n (invT n t) b := by
  refine getD_extB (by rw [rowL_len, upT_len]) fun i hi => ?_
  rw [rowL_len] at hi
  rw [rowL_get hi]
  refine bool_ext ?_
  rw [decide_eq_true_eq, dnL_mem, upT_iff hi]
  constructor
  · rintro (⟨q, h1, h2⟩ | ⟨a, h1, h2, q, h3, h4⟩)
    · obtain rfl : q = i := by omega
      exact .inl (memB_mem.1 h1).2
    · obtain rfl : a = i := by omega
      have := memB_mem.1 h3
      exact .inr ⟨q, by omega, this.2, by rw [atT_inv (by omega) hi]; exact h4⟩
  · rintro (h | ⟨q, h1, h2, h3⟩)
    · exact .inl ⟨i, memB_mem.2 ⟨by omega, h⟩, rfl⟩
    · rw [atT_inv h1 hi] at h3
      exact .inr ⟨i, hi, rfl, q, memB_mem.2 ⟨by omega, h2⟩, h3⟩
end Go.AM

/- append at a slice that has another name: the other name keeps its elements. -/
namespace Go.AM
def lvA (c : Bool) (id gen : Nat) (M : List Int) : AV := if c then .sl ⟨id, gen, none⟩ 0 M.length none else .rsl 1 (ints M)
theorem alias_rel {x : Cx} (h : StOk x) {id gen ver g : Nat} {l M : List Int} {new : List (List AV)} {c : Bool} {lv : Value} (hM : l.take M.length = M) (hle : M.length ≤ l.length)
    (hs : sget x.s id = some ⟨gen, ver, 1, ints l⟩) (hl : Rel x (lvA c id gen M) lv) {ρ' : Pl → Option (Nat × Nat)} {w' : World}
    (hgo : Goes x ⟨ρ', (id, some ⟨g, g, 1, ints l ++ new⟩) :: x.s, (fun k => x.c k ∨ k = g), w', x.F⟩) (hq : ∀ q, q ≠ (id, none) → ρ' q = x.ρ q) (hn : 0 < new.length) (hno : noOsl (ints l ++ new))
    (hX : ∀ b base, x.ρ (id, none) = some (b, base) → l.length + new.length = 0 ∨ (ρ' (id, none) = some (b, base + 0 * 1) ∧ blockSize w' b = blockSize x.w b) ∨ (ρ' (id, none) = some (x.w.heap.size, 0) ∧ w'.heap[b]? = x.w.heap[b]?)) :
    ∃ c', Rel ⟨ρ', (id, some ⟨g, g, 1, ints l ++ new⟩) :: x.s, (fun k => x.c k ∨ k = g), w', x.F⟩ (lvA c' id g M) lv := by
  cases c with
  | false => exact ⟨false, hl.mono hgo.le⟩
  | true =>
    change Rel x (.sl ⟨id, gen, none⟩ 0 M.length none) lv at hl
    obtain ⟨a, cap, rfl, _, hok, hh⟩ := hl.sl_inv
    have hc : content x.s ⟨id, gen, none⟩ = some (1, ints l) := by simp [content, hs]
    have hp : pcontent x.s (id, none) = some (1, ints l) := pcontent_of_content hc
    obtain ⟨_, hd⟩ := hh _ _ hc
    have hnil : M.length = 0 → ∃ c', Rel ⟨ρ', (id, some ⟨g, g, 1, ints l ++ new⟩) :: x.s, (fun k => x.c k ∨ k = g), w', x.F⟩ (lvA c' id g M) (.slice a M.length cap) := fun h0 => by
      obtain rfl := List.eq_nil_of_length_eq_zero h0
      exact ⟨false, .pure _ _ (.rnil 1 a cap)⟩
    change Hdr x.w (x.ρ (id, none)) 1 0 M.length _ at hd
    cases hρ : x.ρ (id, none) with
    | none =>
      rw [hρ] at hd
      exact hnil hd.2.1
    | some bb =>
      obtain ⟨b, base⟩ := bb
      rw [hρ] at hd
      obtain ⟨a', cap', e0, hlc, hcase⟩ := hd
      simp only [Value.slice.injEq, true_and] at e0
      obtain ⟨rfl, rfl⟩ := e0
      rcases Nat.eq_zero_or_pos M.length with h0 | h0
      · exact hnil h0
      rcases hcase with hc0 | ⟨rfl, hroom⟩
      · omega
      rcases hX b base hρ with hz | ⟨e1, e2⟩ | ⟨e1, e2⟩
      · omega
      · refine ⟨true, ?_⟩
        show Rel _ (.sl ⟨id, g, none⟩ 0 M.length none) _
        refine .sl _ _ _ _ _ _ (fun _ e => by cases e) ⟨.inr rfl, by simp⟩ fun sz' es' he => ?_
        simp only [content, sget_cons, if_true, Option.some.injEq, Prod.mk.injEq] at he
        obtain ⟨rfl, rfl⟩ := he
        refine ⟨by rw [List.length_append, ints_len]; omega, ?_⟩
        show Hdr w' (ρ' (id, none)) 1 0 M.length _
        rw [e1]
        exact ⟨_, cap, rfl, hlc, .inr ⟨by simp, by rw [e2]; simpa using hroom⟩⟩
      · refine ⟨false, .pure _ _ ?_⟩
        show RelP _ w' (.rsl 1 (ints M)) _
        obtain ⟨cs, T, g1, g2, g3⟩ := h.rows _ _ _ _ _ hp hρ
        have hb := heap_lt g1
        have hcell : ∀ i, i < M.length → w'.cell? ⟨b, base + i, none⟩ = some (.int .i64 (M.getD i 0)) := fun i hi => by
          obtain ⟨u, k1, k2⟩ := g3 i 0 (by rw [ints_len]; omega) (by omega)
          rw [ints_getD (by omega)] at k2
          have hu : Rel x (.int .i64 (l.getD i 0)) u := k2
          have := hu.int_inv
          subst this
          have hml : M.getD i 0 = l.getD i 0 := by rw [← hM, List.getD_eq_getElem?_getD, List.getElem?_take, if_pos hi, List.getD_eq_getElem?_getD]
          rw [cell?_of_heap e2, hml]
          simp only [World.cell?, g1]
          simpa using k1
        have := RelP.rsl (imm := Cx.imm ⟨ρ', (id, some ⟨g, g, 1, ints l ++ new⟩) :: x.s, (fun k => x.c k ∨ k = g), w', x.F⟩) (w := w') 1 (ints M) b (base + 0 * 1) cap (fun i _ => .int .i64 (M.getD i 0)) (by rw [ints_len]; exact hlc)
          ⟨Nat.lt_of_lt_of_le hb hgo.ext.size, ?_, fun hF => (h.apart b hF).2 ⟨_, _, _, hp, hρ⟩⟩ (fun e he => by obtain ⟨z, _, rfl⟩ := List.mem_map.1 he; rfl) (fun i j hi hj => by
            rw [ints_len] at hi
            obtain rfl : j = 0 := by omega
            have := hcell i hi
            simpa using this) (fun i j hi hj => by
            rw [ints_len] at hi
            obtain rfl : j = 0 := by omega
            rw [ints_getD hi]
            exact .int _ _)
        · rw [ints_len] at this; exact this
        · rintro ⟨π, y, base', p1, p2⟩
          rcases pcontent_cons_noOsl hno p1 with ⟨rfl, _⟩ | ⟨hne, p3⟩
          · simp only at p2
            rw [e1] at p2
            simp only [Option.some.injEq, Prod.mk.injEq] at p2
            omega
          · simp only at p2
            rw [hq π (fun e => hne (by rw [e]))] at p2
            exact hne (by rw [h.inj π (id, none) _ _ _ _ _ p3 hp p2 hρ])
/-- One operation of a region, by hand. -/
theorem wp_step {P : Program} {n base : Nat} {orc : Option Orc} {all rest : List Oper} {o : Oper} {e : Env} {s : Store} {k : Nat} {r : Res} {Q : AX → Post} (hgd : o.guard = none) (hr : stepOp P orc o.op (base + o.dst.getD 0) k e s = some r) (hvc : r.vc) (hd : dstOk n o.dst)
    {x0 : Cx} {ρ : Pl → Option (Nat × Nat)} {a : Act} {w : World} (hg : Goes x0 ⟨ρ, s, clk k, w, x0.F⟩) (hs : St ⟨ρ, s, clk k, w, x0.F⟩ e n a)
    (hk : ∀ ρ' a' w', Goes x0 ⟨ρ', r.u ++ s, clk (k + 2), w', x0.F⟩ → St ⟨ρ', r.u ++ s, clk (k + 2), w', x0.F⟩ (setE o.dst r.v e) n a' → wpList P all.toArray (LiftX x0 n Q) rest a' w') : wpList P all.toArray (LiftX x0 n Q) (o :: rest) a w := by
  unfold wpList
  rw [if_pos (by simp [Region.wanted, hgd])]
  refine .inl (step_sound (x := ⟨ρ, s, clk k, w, x0.F⟩) hs.ok hs.env hr hvc clk_fresh.1 clk_fresh.2 (B := k) (fun _ h => h) fun y u hgo hys hyc hru => ?_)
  have hgo2 := hgo.ok.goes_grow (s' := y.s) (c' := clk (k + 2)) (w' := y.w) (fun _ _ h => h) (fun g hg => by
    rcases hyc g hg with h1 | h1 | h1
    · exact Nat.lt_of_lt_of_le h1 (by omega)
    · simp [clk, h1]
    · simp [clk, h1]) (.refl _ _)
  have hall := hg.trans (hgo.trans hgo2)
  have hF : y.F = x0.F := hgo.F
  rw [hF] at hall hgo2
  have := hk y.ρ (a.put o.dst u) y.w
  rw [← hys] at this
  exact this hall (put_env ((hgo.trans hgo2).le) hs hgo2.ok hd (hru.mono hgo2.le))
end Go.AM

/- The region that appends one number to a list of numbers that has another name. -/
namespace Go.AM
theorem keepE_congr {e e' : Env} {ks : List Nat} (h : ∀ t ∈ ks, eget e t = eget e' t) : keepE ks e = keepE ks e' := List.map_congr_left fun t ht => by rw [h t ht]
theorem keepS_congr {s s' : Store} {is : List Nat} (h : ∀ i ∈ is, sget s i = sget s' i) : keepS is s = keepS is s' := List.map_congr_left fun t ht => by rw [h t ht]
theorem AW.appAlias {P : Program} {n rg T e2 by_ : Nat} {zc : List AV} {o1 o2 o3 o4 o5 : Oper} {Q : AX → Post} {e : Env} {s : Store} {k : Nat} (base tm tv t1 t2 t3 t4 tl : Nat) (ks is : List Nat) (c : Bool) (id gen ver : Nat) (l M : List Int) (z : Int)
    (h1 : o1.op = .move (.tmp tm) ∧ o1.dst = some t1 ∧ o1.guard = none) (h2 : o2.op = .move (.tmp tv) ∧ o2.dst = some t2 ∧ o2.guard = none) (h3 : o3.op = .buildSlice T 1 #[(0, .tmp t2)] ∧ o3.dst = some t3 ∧ o3.guard = none)
    (h4 : o4.op = .call ⟨.builtin .append, #[.tmp t1, .tmp t3], #[T, T]⟩ ∧ o4.dst = some t4 ∧ o4.guard = none) (h5 : o5.op = .assign (.tmp t4) ∧ o5.dst = some tm ∧ o5.guard = none)
    (hd : (t1 ≠ t2 ∧ t1 ≠ t3 ∧ t1 ≠ tv ∧ t2 ≠ t3 ∧ t4 ≠ tl ∧ tl ≠ t1 ∧ tl ≠ t2 ∧ tl ≠ t3 ∧ tm ≠ tl ∧ t4 ≠ tm) ∧ t1 < n ∧ t2 < n ∧ t3 < n ∧ t4 < n ∧ tm < n) (hks : ks.all (fun t => !(t == t1) && !(t == t2) && !(t == t3) && !(t == t4)) = true) (his : is.all (fun i => !(i == base + t3)) = true) (hid : base + t3 ≠ id)
    (hT : slD P T = some (e2, 1)) (hz : zeC P e2 = some zc) (hzl : zc.length = 1) (hb : byD P e2 = some by_) (hb0 : 0 < by_) (hbd : by_ * (l.length + 1) ≤ 2 ^ 46)
    (he1 : eget e tm = .sl ⟨id, gen, none⟩ 0 l.length none) (he2 : eget e tv = .int .i64 z) (he3 : eget e tl = lvA c id gen M) (hs : sget s id = some ⟨gen, ver, 1, ints l⟩) (hM : l.take M.length = M) (hle : M.length ≤ l.length)
    (h : ∀ c' g k', Q .normal (keepE ks ((tm, .sl ⟨id, g, none⟩ 0 (l.length + 1) none) :: (tl, lvA c' id g M) :: e)) (keepS is ((id, some ⟨g, g, 1, ints (l ++ [z])⟩) :: s)) k') :
    AW P n (.region rg #[o1, o2, o3, o4, o5] false) Q e s k := by
  obtain ⟨a1, b1, c1⟩ := h1
  obtain ⟨a2, b2, c2⟩ := h2
  obtain ⟨a3, b3, c3⟩ := h3
  obtain ⟨a4, b4, c4⟩ := h4
  obtain ⟨a5, b5, c5⟩ := h5
  obtain ⟨⟨d12, d13, d1v, d23, d4l, dl1, dl2, dl3, dml, d4m⟩, n1, n2, n3, n4, nm⟩ := hd
  intro x0 ρ a w hg hst
  refine wp_region_lit (l := [o1, o2, o3, o4, o5]) ?_
  refine wp_step (base := base) (orc := none) c1 (r := ⟨True, .sl ⟨id, gen, none⟩ 0 l.length none, []⟩) (by rw [a1]; simp only [stepOp, ev, he1, strip]) trivial (by rw [b1]; exact n1) hg hst fun ρ1 A1 w1 g1 s1 => ?_
  rw [b1] at s1
  refine wp_step (base := base) (orc := none) c2 (r := ⟨True, .int .i64 z, []⟩) (by rw [a2]; simp only [stepOp, ev, setE, eget_cons, if_neg d1v, he2, strip]) trivial (by rw [b2]; exact n2) g1 s1 fun ρ2 A2 w2 g2 s2 => ?_
  rw [b2] at s2
  refine wp_step (base := base) (orc := none) c3 (r := ⟨True ∧ True, .sl ⟨base + t3, k + 2 + 2, none⟩ 0 1 none, [(base + t3, some ⟨k + 2 + 2, k + 2 + 2, 1, [[.int .i64 z]]⟩)]⟩) (by
      rw [a3, b3]
      simp only [stepOp, if_neg (show ¬ (1 = 0) by decide), List.map_cons, List.map_nil, ev, setE, eget_cons, if_true, strip, aBuildSlice, hT, hz, hzl, aParts, scalar, Option.getD_some]
      match zc, hzl with
      | [q], _ => simp [cellsA, known, scalar, fillA, splice, chunkN]) ⟨trivial, trivial⟩ (by rw [b3]; exact n3) g2 s2 fun ρ3 A3 w3 g3 s3 => ?_
  rw [b3] at s3
  -- the append itself
  generalize hE : setE (some t3) _ _ = E at s3
  have hE1 : eget E t1 = .sl ⟨id, gen, none⟩ 0 l.length none := by
    rw [← hE]; simp only [setE, eget_cons, if_neg (Ne.symm d13), if_neg (Ne.symm d12), if_true]
  have hE3 : eget E t3 = .sl ⟨base + t3, k + 2 + 2, none⟩ 0 1 none := by rw [← hE]; simp only [setE, eget_cons, if_true]
  have hEl : eget E tl = lvA c id gen M := by
    rw [← hE]; simp only [setE, eget_cons, if_neg (Ne.symm dl1), if_neg (Ne.symm dl2), if_neg (Ne.symm dl3), he3]
  have hEt : ∀ t, t ≠ t1 → t ≠ t2 → t ≠ t3 → eget E t = eget e t := fun t q1 q2 q3 => by
    rw [← hE]; simp only [setE, eget_cons, if_neg (Ne.symm q1), if_neg (Ne.symm q2), if_neg (Ne.symm q3)]
  change Goes x0 ⟨ρ3, (base + t3, some ⟨k + 2 + 2, k + 2 + 2, 1, [[.int .i64 z]]⟩) :: s, clk (k + 2 + 2 + 2), w3, x0.F⟩ at g3
  change St ⟨ρ3, (base + t3, some ⟨k + 2 + 2, k + 2 + 2, 1, [[.int .i64 z]]⟩) :: s, clk (k + 2 + 2 + 2), w3, x0.F⟩ E n A3 at s3
  generalize hS : ((base + t3, some ⟨k + 2 + 2, k + 2 + 2, 1, [[AV.int .i64 z]]⟩) :: s : Store) = S at g3 s3
  have hSid : sget S id = some ⟨gen, ver, 1, ints l⟩ := by rw [← hS, sget_cons, if_neg hid, hs]
  have hSt3 : sget S (base + t3) = some ⟨k + 2 + 2, k + 2 + 2, 1, [[.int .i64 z]]⟩ := by rw [← hS, sget_cons, if_pos rfl]
  have hev := ev_rel s3.ok.gl s3.env
  have r1 := hev (.tmp t1) (by simp only [ev, hE1, strip])
  have r3 := hev (.tmp t3) (by simp only [ev, hE3, strip])
  simp only [ev, hE1, strip] at r1
  simp only [ev, hE3, strip] at r3
  have rl := s3.env tl
  rw [hEl] at rl
  obtain ⟨i, zz, hi, hzz, hfl⟩ := zeC_flat (x := ⟨ρ3, S, clk (k + 2 + 2 + 2), w3, x0.F⟩) hz
  have hzc : zz.cells.size = 1 := by rw [hfl.1]; exact hzl
  have hbb : i.bytes = by_ := by simp [byD, hi] at hb; exact hb
  have hsc : scP [[AV.int .i64 z]] := fun cs h1 a h2 => by
    simp only [List.mem_singleton] at h1; subst h1
    simp only [List.mem_singleton] at h2; subst h2; rfl
  have hsrc : srcOf S 1 (.sl ⟨base + t3, k + 2 + 2, none⟩ 0 1 none) = some ([[.int .i64 z]], scP [[.int .i64 z]]) := by
    simp only [srcOf, content, hSt3, if_true, List.drop_zero, List.take_succ_cons, List.take_zero]
  obtain ⟨a2', cap2, nc, hu3, hnew, hns, hln, hnc⟩ := srcOf_sound (P := P) s3.ok hsrc hsc r3
  have hcont : content S ⟨id, gen, none⟩ = some (1, ints l) := by simp [content, hSid]
  obtain ⟨ρ', v', w', k1, k2, k3, k4, k5⟩ := append_topX (P := P) (ty := o4.type) (off := 0) (len := l.length) (kc := none) (u := A3.eval (.tmp t1)) s3.ok clk_fresh.1 hT hT hi hzz hzc hbb hb0 (by simpa using hbd) (hu3 ▸ hnew) hns hln hnc (one_of_rows hns hln (srcOf_sc hsrc hsc) hnc) (r := ⟨id, gen, none⟩) rfl hcont r1 (.inl rfl)
  have hdt : ((ints l).drop 0).take l.length = ints l := by rw [List.drop_zero, List.take_of_length_le (by rw [ints_len]; exact Nat.le_refl _)]
  have hap : ints l ++ [[AV.int .i64 z]] = ints (l ++ [z]) := ints_app l z
  simp only [hdt] at k2 k3
  obtain ⟨c', hcl⟩ := alias_rel s3.ok hM hle hSid rl k2 k4 (by simp) (by rw [hap]; exact noOsl_ints _) (fun b bs hb => by have := k5 b bs hb; simpa using this)
  rw [hap] at k2 k3 hcl
  have hgo2 := k2.ok.goes_grow (s' := (id, some ⟨k + 2 + 2 + 2, k + 2 + 2 + 2, 1, ints (l ++ [z])⟩) :: S) (c' := clk (k + 2 + 2 + 2 + 2)) (w' := w') (fun _ _ h => h) (fun g hg => by
    rcases hg with hg | hg
    · exact Nat.lt_of_lt_of_le hg (by omega)
    · simp [clk, hg]) (.refl _ _)
  have hput := put_env (e := E) (n := n) (a := A3) (dst := some t4) ((k2.trans hgo2).le) s3 hgo2.ok (show dstOk n (some t4) from n4) (k3.mono hgo2.le)
  have hst4 : St ⟨ρ', (id, some ⟨k + 2 + 2 + 2, k + 2 + 2 + 2, 1, ints (l ++ [z])⟩) :: S, clk (k + 2 + 2 + 2 + 2), w', x0.F⟩ ((tl, lvA c' id (k + 2 + 2 + 2) M) :: setE (some t4) (.sl ⟨id, k + 2 + 2 + 2, none⟩ 0 (l.length + 1) none) E) n (A3.put (some t4) v') := by
    refine ⟨hgo2.ok, hput.size, hput.defers, fun t => ?_⟩
    rw [eget_cons]
    by_cases ht : tl = t
    · subst ht
      rw [if_pos rfl]
      have := hcl.mono hgo2.le
      simpa [Act.put, Array.getElem?_setIfInBounds_ne d4l] using this
    · rw [if_neg ht]
      exact hput.env t
  have hall := g3.trans (k2.trans hgo2)
  unfold wpList
  rw [if_pos (by simp [Region.wanted, c4])]
  refine .inl (wp_value (u := v') (s := Builtin.append_ #[T, T] o4.type #[A3.eval (.tmp t1), A3.eval (.tmp t3)]) (by simp [execOp, a4, resolve, pure_bind, invoke, builtin]) (by rw [hu3]; exact k1) ?_)
  rw [b4]
  refine wp_step (base := base) (orc := none) c5 (r := ⟨True, .sl ⟨id, k + 2 + 2 + 2, none⟩ 0 (l.length + 1) none, []⟩) (by rw [a5]; simp only [stepOp, ev, setE, eget_cons, if_neg (Ne.symm d4l), if_true, strip]) trivial (by rw [b5]; exact nm) hall hst4 fun ρ5 A5 w5 g5 s5 => ?_
  rw [b5] at s5
  refine Lift.keep ks is ⟨ρ5, _, _, _, ?_, g5, s5⟩
  have hk1 : keepE ks (setE (some tm) (.sl ⟨id, k + 2 + 2 + 2, none⟩ 0 (l.length + 1) none) ((tl, lvA c' id (k + 2 + 2 + 2) M) :: setE (some t4) (.sl ⟨id, k + 2 + 2 + 2, none⟩ 0 (l.length + 1) none) E)) = keepE ks ((tm, .sl ⟨id, k + 2 + 2 + 2, none⟩ 0 (l.length + 1) none) :: (tl, lvA c' id (k + 2 + 2 + 2) M) :: e) := keepE_congr fun t ht => by
    have hq := List.all_eq_true.1 hks t ht
    simp only [Bool.and_eq_true, Bool.not_eq_true', beq_eq_false_iff_ne] at hq
    simp only [setE, eget_cons]
    by_cases hm : tm = t
    · rw [if_pos hm, if_pos hm]
    · rw [if_neg hm, if_neg hm]
      by_cases hl : tl = t
      · rw [if_pos hl, if_pos hl]
      · rw [if_neg hl, if_neg hl, if_neg (Ne.symm hq.2), hEt t hq.1.1.1 hq.1.1.2 hq.1.2]
  have hk2 : keepS is (([] : Store) ++ ((id, some ⟨k + 2 + 2 + 2, k + 2 + 2 + 2, 1, ints (l ++ [z])⟩) :: S)) = keepS is ((id, some ⟨k + 2 + 2 + 2, k + 2 + 2 + 2, 1, ints (l ++ [z])⟩) :: s) := keepS_congr fun i hi => by
    have hq := List.all_eq_true.1 his i hi
    simp only [Bool.not_eq_true', beq_eq_false_iff_ne] at hq
    rw [List.nil_append, sget_cons, sget_cons, ← hS, sget_cons]
    by_cases h1 : id = i
    · rw [if_pos h1, if_pos h1]
    · rw [if_neg h1, if_neg h1, if_neg (Ne.symm hq)]
  have := h c' (k + 2 + 2 + 2) (k + 2 + 2 + 2 + 2 + 2)
  rw [← hk2, ← hk1] at this
  exact this
end Go.AM

namespace Go.Proofs.P
open Go.AM Go
set_option maxRecDepth 100000
set_option maxHeartbeats 2000000
theorem lvA_t (id gen : Nat) (M : List Int) : lvA true id gen M = .sl ⟨id, gen, none⟩ 0 M.length none := rfl
theorem lvA_f (id gen : Nat) (M : List Int) : lvA false id gen M = .rsl 1 (ints M) := rfl
theorem rdown_r (n : Nat) (t : List (List Bool)) (hs : Sq n t) (hn : n ≤ 512) (b : List Bool) (hb0 : b.length = n) : Reads Tryd.prog 40 false [relB t, .agg (rowB b)] (.agg (rowB (upT n (invT n t) b))) := by
  have hm := rmembers_u b (by omega)
  have hlt : (tabR t).length = n := by rw [tabR_len, hs.len]
  have hmm : ∀ j, j ∈ memB b → j < n := fun j hj => by have := (memB_mem.1 hj).1; omega
  have hml := memB_le b
  have hls := rless_r n t hs hn
  have hrow := dnL_row_all (n := n) (t := t) hb0
  have hin : ∀ x ∈ dnL t (memB b) n 0, 0 ≤ x ∧ x < (n : Int) := fun x hx => by
    rcases dnL_mem.1 hx with ⟨i, h1, rfl⟩ | ⟨a, h1, rfl, _⟩
    · have := hmm i h1; omega
    · omega
  have hbl : ∀ i k, i ≤ n → (dnL t (memB b) i k).length ≤ 300000 := fun i k hi => by
    have h1 := dnL_len t (memB b) i k
    have h2 : i * (memB b).length ≤ 512 * 512 := Nat.mul_le_mul (by omega) (by omega)
    omega
  have ho := rof2_r n (dnL t (memB b) n 0) hn (by have := hbl n 0 (Nat.le_refl _); omega) hin
  rw [hrow] at ho
  have hul : (upT n (invT n t) b).length = n := upT_len _ _ _
  have htk := dnL_take t (memB b)
  have hle := dnL_le t (memB b)
  have hz := dnL_zero t (memB b)
  have hrs := dnL_row t (memB b)
  have hsc := fun i k q hq => dnL_succ (t := t) (M := memB b) (i := i) (k := k) (q := q) hq
  generalize hM : memB b = M at *
  change ∀ i k, (dnL t M i k).take (nats M).length = nats M at htk
  change ∀ i k, (nats M).length ≤ _ at hle
  change _ = nats M at hz
  have hnl := nats_len M
  unfold relB rowB at *
  simp only [hb0, hul] at *
  refine Reads.body (rs := [.cell 4 35]) Tryd.func40 rfl Tryd.ntmps40 rfl (by simp) ?_
  generalize hQr : retQ _ _ _ = Qr
  refine AW.seq fun K1 hK1 => ?_
  -- region 0
  refine AW.regionK 0 (fun _ => none) [2, 3, 4] [2, 3, 4] ?_
  simp only [go_sem, reduceIte, reduceCtorEq, Nat.reduceAdd, Nat.reduceMul, Nat.reduceEqDiff, Nat.reduceLT, Nat.reduceLeDiff, Nat.reduceSub, Nat.reducePow, Nat.reduceBEq, Int.reduceToNat, List.reduceReplicate, hlt]
  repeat with_reducible refine cj ?_ ?_
  all_goals try first | omega
  refine hK1 _ _ _ ?_; clear hK1
  refine AW.seq fun K2 hK2 => ?_
  -- region 1
  refine AW.regionK 0 (fun ii => if ii = 1 then some (.upd [] (fun k => [(0, some ⟨k, k, 1, ints (nats M)⟩)]) (fun k => .sl ⟨0, k, none⟩ 0 M.length none)) else none) [2, 3, 4, 5] [2, 3, 4, 10] ?_
  simp only [go_sem, reduceIte, reduceCtorEq, Nat.reduceAdd, Nat.reduceMul, Nat.reduceEqDiff, Nat.reduceLT, Nat.reduceLeDiff, Nat.reduceSub, Nat.reducePow, Nat.reduceBEq, Int.reduceToNat, List.reduceReplicate, hlt, renC_ints]
  repeat with_reducible refine cj ?_ ?_
  all_goals try first | (exact hm) | omega | exact ent (by kernel_rfl)
  refine hK2 _ _ _ ?_; clear hK2
  refine AW.seq fun K3 hK3 => ?_
  -- region 2
  refine AW.regionK 0 (fun _ => none) [2, 3, 4, 5, 6] [2, 3, 4, 10] ?_
  simp only [go_sem, reduceIte, reduceCtorEq, Nat.reduceAdd, Nat.reduceMul, Nat.reduceEqDiff, Nat.reduceLT, Nat.reduceLeDiff, Nat.reduceSub, Nat.reducePow, Nat.reduceBEq, Int.reduceToNat, List.reduceReplicate, hlt]
  repeat with_reducible refine cj ?_ ?_
  all_goals try first | omega
  refine hK3 _ _ _ ?_; clear hK3
  refine AW.seq fun K4 hK4 => ?_
  refine AW.seq fun K5 hK5 => ?_
  -- region 3
  refine AW.regionK 0 (fun _ => none) [2, 3, 4, 5, 6, 7] [2, 3, 4, 10] ?_
  simp only [go_sem, reduceIte, reduceCtorEq, Nat.reduceAdd, Nat.reduceMul, Nat.reduceEqDiff, Nat.reduceLT, Nat.reduceLeDiff, Nat.reduceSub, Nat.reducePow, Nat.reduceBEq, Int.reduceToNat, List.reduceReplicate, hlt]
  repeat with_reducible refine cj ?_ ?_
  all_goals try first | omega
  refine hK5 _ _ _ ?_; clear hK5
  refine AW.block ?_
  -- loop 1
  refine AW.loopE (fun mm ee ss kk => ∃ (i g2 v2 g3 v3 g4 v4 g v : Nat) (c : Bool), n - i = mm ∧ ee = [(2, .ptr ⟨2, g2, none⟩ 0 0), (3, .ptr ⟨3, g3, none⟩ 0 0), (4, .ptr ⟨4, g4, none⟩ 0 0), (5, lvA c 10 g (nats M)), (6, .sl ⟨10, g, none⟩ 0 (dnL t M i 0).length none), (7, .int .i64 (i : Nat))] ∧ ss = [(2, some ⟨g2, v2, 1, [[.rsl 2 (tabR t)]]⟩), (3, some ⟨g3, v3, 2, [[.int .i64 n, .rsl 1 (words (setW b n))]]⟩), (4, some ⟨g4, v4, 2, [[.int .i64 0, .nilsl]]⟩), (10, some ⟨g, v, 1, ints (dnL t M i 0)⟩)] ∧ (i ≤ n)) ?_ ?_
  · refine ⟨_, 0, ?_, ?_, ?_, ?_, ?_, ?_, ?_, ?_, true, rfl, ?henv, ?hstore, ?hst⟩
    case henv =>
      repeat' (first | rfl | refine env_cons ?_ ?_ | refine st_cons ?_ ?_ ?_ ?_ | refine int_eq ?_ | refine bool_eq ?_ | refine rsl_eq ?_ | refine osl_eq ?_ | refine sl_eq ?_ ?_ ?_ | refine ptr_eq ?_ ?_ ?_ | refine agg_eq ?_ | refine es_cons ?_ ?_ | refine row_cons ?_ ?_)
      all_goals (first | exact hnl.symm | (rw [hz]; exact hnl.symm) | (rw [hz, nats_len]; done) | (simp; done))
    case hstore =>
      repeat' (first | rfl | refine env_cons ?_ ?_ | refine st_cons ?_ ?_ ?_ ?_ | refine int_eq ?_ | refine bool_eq ?_ | refine rsl_eq ?_ | refine osl_eq ?_ | refine sl_eq ?_ ?_ ?_ | refine ptr_eq ?_ ?_ ?_ | refine agg_eq ?_ | refine es_cons ?_ ?_ | refine row_cons ?_ ?_)
      all_goals (rw [hz])
    case hst =>
      first | trivial | omega | (simp; done) | (simp; omega)
  rintro mm ee ss kk ⟨i, g2, v2, g3, v3, g4, v4, g, v, c, rfl, rfl, rfl, hI⟩
  generalize hQl1 : thenQ _ _ = Ql1
  refine AW.seq fun K6 hK6 => ?_
  refine AW.seq fun K7 hK7 => ?_
  -- region 4
  refine AW.regionK 0 (fun _ => none) [2, 3, 4, 5, 6, 7, 16] [2, 3, 4, 10] ?_
  simp only [go_sem, reduceIte, reduceCtorEq, Nat.reduceAdd, Nat.reduceMul, Nat.reduceEqDiff, Nat.reduceLT, Nat.reduceLeDiff, Nat.reduceSub, Nat.reducePow, Nat.reduceBEq, Int.reduceToNat, List.reduceReplicate, hlt]
  repeat with_reducible refine cj ?_ ?_
  all_goals try first | omega
  refine hK7 _ _ _ ?_; clear hK7
  -- cond 1
  refine AW.cond rfl (by simp only [go_sem, reduceIte, reduceCtorEq, Nat.reduceAdd, Nat.reduceMul, Nat.reduceEqDiff, Nat.reduceLT, Nat.reduceLeDiff, Nat.reduceSub, Nat.reducePow, Nat.reduceBEq, Int.reduceToNat, List.reduceReplicate]) ?_ ?_
  · intro hb
    try simp only [hB, decide_eq_true_eq, decide_eq_false_iff_not] at hb
    refine AW.skip ?_
    refine hK6 _ _ _ ?_; clear hK6
    refine AW.seq fun K8 hK8 => ?_
    refine AW.block ?_
    refine AW.seq fun K9 hK9 => ?_
    -- region 6
    refine AW.regionK 0 (fun _ => none) [2, 3, 4, 5, 6, 7, 8] [2, 3, 4, 10] ?_
    simp only [go_sem, reduceIte, reduceCtorEq, Nat.reduceAdd, Nat.reduceMul, Nat.reduceEqDiff, Nat.reduceLT, Nat.reduceLeDiff, Nat.reduceSub, Nat.reducePow, Nat.reduceBEq, Int.reduceToNat, List.reduceReplicate, hlt]
    repeat with_reducible refine cj ?_ ?_
    all_goals try first | omega
    refine hK9 _ _ _ ?_; clear hK9
    refine AW.block ?_
    -- loop 2
    refine AW.loopE (fun mm ee ss kk => ∃ (k g2 v2 g3 v3 g4 v4 g v : Nat) (c : Bool), M.length - k = mm ∧ ee = [(2, .ptr ⟨2, g2, none⟩ 0 0), (3, .ptr ⟨3, g3, none⟩ 0 0), (4, .ptr ⟨4, g4, none⟩ 0 0), (5, lvA c 10 g (nats M)), (6, .sl ⟨10, g, none⟩ 0 (dnL t M i k).length none), (7, .int .i64 (i : Nat)), (8, .int .i64 (k : Nat))] ∧ ss = [(2, some ⟨g2, v2, 1, [[.rsl 2 (tabR t)]]⟩), (3, some ⟨g3, v3, 2, [[.int .i64 n, .rsl 1 (words (setW b n))]]⟩), (4, some ⟨g4, v4, 2, [[.int .i64 0, .nilsl]]⟩), (10, some ⟨g, v, 1, ints (dnL t M i k)⟩)] ∧ (k ≤ M.length)) ?_ ?_
    · refine ⟨_, 0, ?_, ?_, ?_, ?_, ?_, ?_, ?_, ?_, c, rfl, ?henv, ?hstore, ?hst⟩
      case henv =>
        repeat' (first | rfl | refine env_cons ?_ ?_ | refine st_cons ?_ ?_ ?_ ?_ | refine int_eq ?_ | refine bool_eq ?_ | refine rsl_eq ?_ | refine osl_eq ?_ | refine sl_eq ?_ ?_ ?_ | refine ptr_eq ?_ ?_ ?_ | refine agg_eq ?_ | refine es_cons ?_ ?_ | refine row_cons ?_ ?_)
        all_goals (first | (simp; done) | omega | (simp; omega))
      case hstore =>
        repeat' (first | rfl | refine env_cons ?_ ?_ | refine st_cons ?_ ?_ ?_ ?_ | refine int_eq ?_ | refine bool_eq ?_ | refine rsl_eq ?_ | refine osl_eq ?_ | refine sl_eq ?_ ?_ ?_ | refine ptr_eq ?_ ?_ ?_ | refine agg_eq ?_ | refine es_cons ?_ ?_ | refine row_cons ?_ ?_)
        all_goals (first | (simp; done) | omega | (simp; omega))
      case hst =>
        first | trivial | omega | (simp; done) | (simp; omega)
    rintro mm ee ss kk ⟨k, g2, v2, g3, v3, g4, v4, g, v, c, rfl, rfl, rfl, hI⟩
    generalize hQl2 : thenQ _ _ = Ql2
    refine AW.seq fun K10 hK10 => ?_
    refine AW.seq fun K11 hK11 => ?_
    have hD7 : ∀ (kk : Nat), K11 [(2, .ptr ⟨2, g2, none⟩ 0 0), (3, .ptr ⟨3, g3, none⟩ 0 0), (4, .ptr ⟨4, g4, none⟩ 0 0), (5, lvA c 10 g (nats M)), (6, .sl ⟨10, g, none⟩ 0 (dnL t M i k).length none), (7, .int .i64 (i : Nat)), (8, .int .i64 (k : Nat)), (22, .bool (decide ((k : Int) < ((nats M).length : Int))))] [(2, some ⟨g2, v2, 1, [[.rsl 2 (tabR t)]]⟩), (3, some ⟨g3, v3, 2, [[.int .i64 n, .rsl 1 (words (setW b n))]]⟩), (4, some ⟨g4, v4, 2, [[.int .i64 0, .nilsl]]⟩), (10, some ⟨g, v, 1, ints (dnL t M i k)⟩)] kk := by
      intro kk
      refine hK11 _ _ _ ?_; clear hK11
      -- cond 2
      refine AW.cond rfl (by simp only [go_sem, reduceIte, reduceCtorEq, Nat.reduceAdd, Nat.reduceMul, Nat.reduceEqDiff, Nat.reduceLT, Nat.reduceLeDiff, Nat.reduceSub, Nat.reducePow, Nat.reduceBEq, Int.reduceToNat, List.reduceReplicate]) ?_ ?_
      · intro hb
        try simp only [hB, decide_eq_true_eq, decide_eq_false_iff_not] at hb
        obtain ⟨q, hq⟩ := getI (l := M) (j := k) (by omega)
        have hqn := hmm q (List.mem_of_getElem? hq)
        have hgq : (ints (nats M)).getD k [] = [.int .i64 (q : Nat)] := nats_get hq
        have hgd : (ints (dnL t M i k)).getD k [] = [.int .i64 (q : Nat)] := by
          refine ints_get ?_
          have h1 := htk i k
          have h2 : ((dnL t M i k).take (nats M).length)[k]? = some (q : Int) := by rw [h1]; simp [nats, hq]
          rw [List.getElem?_take, if_pos (by rw [nats_len]; omega)] at h2
          exact h2
        have hll := hls i q (by omega) hqn
        have hss := hsc i k q hq
        have hdl := hle i k
        have hdb := hbl i k (by omega)
        rw [nats_len] at hdl
        refine AW.skip ?_
        refine hK10 _ _ _ ?_; clear hK10
        refine AW.seq fun K14 hK14 => ?_
        refine AW.block ?_
        refine AW.seq fun K15 hK15 => ?_
        have hD9 : ∀ (kk : Nat), K15 [(2, .ptr ⟨2, g2, none⟩ 0 0), (3, .ptr ⟨3, g3, none⟩ 0 0), (4, .ptr ⟨4, g4, none⟩ 0 0), (5, lvA c 10 g (nats M)), (6, .sl ⟨10, g, none⟩ 0 (dnL t M i k).length none), (7, .int .i64 (i : Nat)), (8, .int .i64 (k : Nat)), (31, .bool (atT t i q))] [(2, some ⟨g2, v2, 1, [[.rsl 2 (tabR t)]]⟩), (3, some ⟨g3, v3, 2, [[.int .i64 n, .rsl 1 (words (setW b n))]]⟩), (4, some ⟨g4, v4, 2, [[.int .i64 0, .nilsl]]⟩), (10, some ⟨g, v, 1, ints (dnL t M i k)⟩)] kk := by
          intro kk
          refine hK15 _ _ _ ?_; clear hK15
          -- cond 3
          refine AW.cond rfl (by simp only [go_sem, reduceIte, reduceCtorEq, Nat.reduceAdd, Nat.reduceMul, Nat.reduceEqDiff, Nat.reduceLT, Nat.reduceLeDiff, Nat.reduceSub, Nat.reducePow, Nat.reduceBEq, Int.reduceToNat, List.reduceReplicate]) ?_ ?_
          · intro hb
            try simp only [hB, decide_eq_true_eq, decide_eq_false_iff_not] at hb
            -- region 10
            rw [if_pos hb] at hss
            refine AW.appAlias 0 6 7 32 33 34 35 5 [2, 3, 4, 5, 6, 7, 8] [2, 3, 4, 10] c 10 g v (dnL t M i k) (nats M) i ⟨rfl, rfl, rfl⟩ ⟨rfl, rfl, rfl⟩ ⟨rfl, rfl, rfl⟩ ⟨rfl, rfl, rfl⟩ ⟨rfl, rfl, rfl⟩ (by decide) (by decide) (by decide) (by decide) slD41 zeC3 rfl byD3 (by decide) (by omega) rfl rfl rfl rfl (htk i k) (hle i k) fun c g kk => ?_
            simp only [go_sem, reduceIte, reduceCtorEq, Nat.reduceAdd, Nat.reduceMul, Nat.reduceEqDiff, Nat.reduceLT, Nat.reduceLeDiff, Nat.reduceSub, Nat.reducePow, Nat.reduceBEq, Int.reduceToNat, List.reduceReplicate, hlt]
            refine hK14 _ _ _ ?_; clear hK14
            -- region 8
            refine AW.regionK 0 (fun _ => none) [2, 3, 4, 5, 6, 7, 8] [2, 3, 4, 10] ?_
            simp only [go_sem, reduceIte, reduceCtorEq, Nat.reduceAdd, Nat.reduceMul, Nat.reduceEqDiff, Nat.reduceLT, Nat.reduceLeDiff, Nat.reduceSub, Nat.reducePow, Nat.reduceBEq, Int.reduceToNat, List.reduceReplicate, hlt]
            repeat with_reducible refine cj ?_ ?_
            all_goals try first | omega
            rw [← hQl2]
            change Exists _
            refine ⟨_, ?hm, k + 1, ?_, ?_, ?_, ?_, ?_, ?_, ?_, ?_, c, rfl, ?henv, ?hstore, ?hst⟩
            case henv =>
              repeat' (first | rfl | refine env_cons ?_ ?_ | refine st_cons ?_ ?_ ?_ ?_ | refine int_eq ?_ | refine bool_eq ?_ | refine rsl_eq ?_ | refine osl_eq ?_ | refine sl_eq ?_ ?_ ?_ | refine ptr_eq ?_ ?_ ?_ | refine agg_eq ?_ | refine es_cons ?_ ?_ | refine row_cons ?_ ?_)
              all_goals (first | (rw [hss]; done) | (rw [hss]; simp; done) | (simp; done) | omega)
            case hstore =>
              repeat' (first | rfl | refine env_cons ?_ ?_ | refine st_cons ?_ ?_ ?_ ?_ | refine int_eq ?_ | refine bool_eq ?_ | refine rsl_eq ?_ | refine osl_eq ?_ | refine sl_eq ?_ ?_ ?_ | refine ptr_eq ?_ ?_ ?_ | refine agg_eq ?_ | refine es_cons ?_ ?_ | refine row_cons ?_ ?_)
              all_goals (rw [hss])
            case hst =>
              first | trivial | omega | (simp; done) | (simp; omega)
            case hm => omega
          · intro hb
            try simp only [hB, decide_eq_true_eq, decide_eq_false_iff_not] at hb
            rw [if_neg (by rw [hb]; simp)] at hss
            refine AW.skip ?_
            refine hK14 _ _ _ ?_; clear hK14
            -- region 8
            refine AW.regionK 0 (fun _ => none) [2, 3, 4, 5, 6, 7, 8] [2, 3, 4, 10] ?_
            simp only [go_sem, reduceIte, reduceCtorEq, Nat.reduceAdd, Nat.reduceMul, Nat.reduceEqDiff, Nat.reduceLT, Nat.reduceLeDiff, Nat.reduceSub, Nat.reducePow, Nat.reduceBEq, Int.reduceToNat, List.reduceReplicate, hlt]
            repeat with_reducible refine cj ?_ ?_
            all_goals try first | omega
            rw [← hQl2]
            change Exists _
            refine ⟨_, ?hm, k + 1, ?_, ?_, ?_, ?_, ?_, ?_, ?_, ?_, c, rfl, ?henv, ?hstore, ?hst⟩
            case henv =>
              repeat' (first | rfl | refine env_cons ?_ ?_ | refine st_cons ?_ ?_ ?_ ?_ | refine int_eq ?_ | refine bool_eq ?_ | refine rsl_eq ?_ | refine osl_eq ?_ | refine sl_eq ?_ ?_ ?_ | refine ptr_eq ?_ ?_ ?_ | refine agg_eq ?_ | refine es_cons ?_ ?_ | refine row_cons ?_ ?_)
              all_goals (first | (rw [hss]; done) | (rw [hss]; simp; done) | (simp; done) | omega)
            case hstore =>
              repeat' (first | rfl | refine env_cons ?_ ?_ | refine st_cons ?_ ?_ ?_ ?_ | refine int_eq ?_ | refine bool_eq ?_ | refine rsl_eq ?_ | refine osl_eq ?_ | refine sl_eq ?_ ?_ ?_ | refine ptr_eq ?_ ?_ ?_ | refine agg_eq ?_ | refine es_cons ?_ ?_ | refine row_cons ?_ ?_)
              all_goals (rw [hss])
            case hst =>
              first | trivial | omega | (simp; done) | (simp; omega)
            case hm => omega
        cases c
        · -- region 9
          refine AW.regionD mixed 0 (fun ii => if ii = 6 then some (.reads false (.bool (atT t i q))) else none) [2, 3, 4, 5, 6, 7, 8, 31] [2, 3, 4, 10] ?_
          simp only [go_sem, reduceIte, reduceCtorEq, Nat.reduceAdd, Nat.reduceMul, Nat.reduceEqDiff, Nat.reduceLT, Nat.reduceLeDiff, Nat.reduceSub, Nat.reducePow, Nat.reduceBEq, Int.reduceToNat, List.reduceReplicate, hlt, lvA_t, lvA_f, ints_len, hgq, hgd]
          repeat with_reducible refine cj ?_ ?_
          all_goals try first | (first | exact hll | exact ⟨rfl, hll⟩) | omega | exact chk (by kernel_rfl) | exact ent (by kernel_rfl)
          exact hD9 _
        · -- region 9
          refine AW.regionD mixed 0 (fun ii => if ii = 6 then some (.reads false (.bool (atT t i q))) else none) [2, 3, 4, 5, 6, 7, 8, 31] [2, 3, 4, 10] ?_
          simp only [go_sem, reduceIte, reduceCtorEq, Nat.reduceAdd, Nat.reduceMul, Nat.reduceEqDiff, Nat.reduceLT, Nat.reduceLeDiff, Nat.reduceSub, Nat.reducePow, Nat.reduceBEq, Int.reduceToNat, List.reduceReplicate, hlt, lvA_t, lvA_f, ints_len, hgq, hgd]
          repeat with_reducible refine cj ?_ ?_
          all_goals try first | (first | exact hll | exact ⟨rfl, hll⟩) | omega | exact chk (by kernel_rfl) | exact ent (by kernel_rfl)
          exact hD9 _
      · intro hb
        try simp only [hB, decide_eq_true_eq, decide_eq_false_iff_not] at hb
        have hk : k = M.length := by omega
        subst hk
        have hrsi := hrs i
        refine AW.exit ?_
        rw [← hQl2]
        refine hK8 _ _ _ ?_; clear hK8
        -- region 5
        refine AW.regionK 0 (fun _ => none) [2, 3, 4, 5, 6, 7] [2, 3, 4, 10] ?_
        simp only [go_sem, reduceIte, reduceCtorEq, Nat.reduceAdd, Nat.reduceMul, Nat.reduceEqDiff, Nat.reduceLT, Nat.reduceLeDiff, Nat.reduceSub, Nat.reducePow, Nat.reduceBEq, Int.reduceToNat, List.reduceReplicate, hlt]
        repeat with_reducible refine cj ?_ ?_
        all_goals try first | omega
        rw [← hQl1]
        change Exists _
        refine ⟨_, ?hm, i + 1, ?_, ?_, ?_, ?_, ?_, ?_, ?_, ?_, c, rfl, ?henv, ?hstore, ?hst⟩
        case henv =>
          repeat' (first | rfl | refine env_cons ?_ ?_ | refine st_cons ?_ ?_ ?_ ?_ | refine int_eq ?_ | refine bool_eq ?_ | refine rsl_eq ?_ | refine osl_eq ?_ | refine sl_eq ?_ ?_ ?_ | refine ptr_eq ?_ ?_ ?_ | refine agg_eq ?_ | refine es_cons ?_ ?_ | refine row_cons ?_ ?_)
          all_goals (first | (rw [hrsi]; done) | (rw [hrsi]; simp; done) | (simp; done) | omega)
        case hstore =>
          repeat' (first | rfl | refine env_cons ?_ ?_ | refine st_cons ?_ ?_ ?_ ?_ | refine int_eq ?_ | refine bool_eq ?_ | refine rsl_eq ?_ | refine osl_eq ?_ | refine sl_eq ?_ ?_ ?_ | refine ptr_eq ?_ ?_ ?_ | refine agg_eq ?_ | refine es_cons ?_ ?_ | refine row_cons ?_ ?_)
          all_goals (rw [hrsi])
        case hst =>
          first | trivial | omega | (simp; done) | (simp; omega)
        case hm => omega
    cases c
    · -- region 7
      refine AW.regionK 0 (fun _ => none) [2, 3, 4, 5, 6, 7, 8, 22] [2, 3, 4, 10] ?_
      simp only [go_sem, reduceIte, reduceCtorEq, Nat.reduceAdd, Nat.reduceMul, Nat.reduceEqDiff, Nat.reduceLT, Nat.reduceLeDiff, Nat.reduceSub, Nat.reducePow, Nat.reduceBEq, Int.reduceToNat, List.reduceReplicate, hlt, lvA_t, lvA_f, ints_len]
      repeat with_reducible refine cj ?_ ?_
      all_goals try first | omega
      exact hD7 _
    · -- region 7
      refine AW.regionK 0 (fun _ => none) [2, 3, 4, 5, 6, 7, 8, 22] [2, 3, 4, 10] ?_
      simp only [go_sem, reduceIte, reduceCtorEq, Nat.reduceAdd, Nat.reduceMul, Nat.reduceEqDiff, Nat.reduceLT, Nat.reduceLeDiff, Nat.reduceSub, Nat.reducePow, Nat.reduceBEq, Int.reduceToNat, List.reduceReplicate, hlt, lvA_t, lvA_f, ints_len]
      repeat with_reducible refine cj ?_ ?_
      all_goals try first | omega
      exact hD7 _
  · intro hb
    try simp only [hB, decide_eq_true_eq, decide_eq_false_iff_not] at hb
    have hi : i = n := by omega
    subst hi
    have htk2 : (ints (dnL t M i 0)).take (dnL t M i 0).length = ints (dnL t M i 0) := List.take_of_length_le (by rw [ints_len]; exact Nat.le_refl _)
    refine AW.exit ?_
    rw [← hQl1]
    refine hK4 _ _ _ ?_; clear hK4
    refine AW.seq fun K16 hK16 => ?_
    -- region 11
    refine AW.regionK 0 (fun ii => if ii = 3 then some (.reads true (.agg [.int .i64 i, .rsl 1 (words (setW (upT i (invT i t) b) i))])) else none) [4] [4] ?_
    simp only [go_sem, reduceIte, reduceCtorEq, Nat.reduceAdd, Nat.reduceMul, Nat.reduceEqDiff, Nat.reduceLT, Nat.reduceLeDiff, Nat.reduceSub, Nat.reducePow, Nat.reduceBEq, Int.reduceToNat, List.reduceReplicate, hlt, htk2]
    repeat with_reducible refine cj ?_ ?_
    all_goals try first | (exact ho) | omega | exact ent (by kernel_rfl)
    refine hK16 _ _ _ ?_; clear hK16
    refine AW.ret ?_
    rw [← hQr]
    simp only [go_sem, reduceIte, reduceCtorEq, Nat.reduceAdd, Nat.reduceMul, Nat.reduceEqDiff, Nat.reduceLT, Nat.reduceLeDiff, Nat.reduceSub, Nat.reducePow, Nat.reduceBEq, Int.reduceToNat, List.reduceReplicate, hlt]
    exact Wk.refl _
end Go.Proofs.P

namespace Go.Proofs.P
open Go.AM Go
set_option maxRecDepth 100000
set_option maxHeartbeats 2000000
theorem closes_0 (rs : List USet) (hl : longR rs) (N : Int) (W : List Int) (hlW : W.length ≤ 9223372036854775807) (h : fewB rs = false ∨ 20 < W.length) :
    Reads Tryd.prog 9 false [relV rs, .agg [.int .i64 N, .rsl 1 (words W)]] (.bool true) := by
  have ha := awake_r
  have hw := few_r rs hl
  unfold relV at *
  refine Reads.body (rs := [.tmp 4]) Tryd.func9 rfl Tryd.ntmps9 rfl (by simp) ?_
  generalize hQr : retQ _ _ _ = Qr
  refine AW.seq fun K1 hK1 => ?_
  -- region 0
  refine AW.regionK 0 (fun _ => none) [2, 3] [2, 3] ?_
  simp only [go_sem, reduceIte, reduceCtorEq, Nat.reduceAdd, Nat.reduceMul, Nat.reduceEqDiff, Nat.reduceLT, Nat.reduceLeDiff, Nat.reduceSub, Nat.reducePow, Nat.reduceBEq, Int.reduceToNat, List.reduceReplicate]
  repeat with_reducible refine cj ?_ ?_
  all_goals try first | omega
  refine hK1 _ _ _ ?_; clear hK1
  refine AW.seq fun K2 hK2 => ?_
  refine AW.seq fun K3 hK3 => ?_
  -- region 1
  refine AW.regionK 0 (fun ii => if ii = 0 then some (.reads false (.bool true)) else if ii = 4 then some (.reads false (.bool (fewB rs))) else none) [2, 3, 23] [2, 3] ?_
  simp only [go_sem, reduceIte, reduceCtorEq, Nat.reduceAdd, Nat.reduceMul, Nat.reduceEqDiff, Nat.reduceLT, Nat.reduceLeDiff, Nat.reduceSub, Nat.reducePow, Nat.reduceBEq, Int.reduceToNat, List.reduceReplicate]
  repeat with_reducible refine cj ?_ ?_
  all_goals try first | (first | exact ha | (intro hh; exact ⟨hh, hw⟩)) | (intros; (repeat' apply And.intro) <;> first | assumption | (first | exact ha | (intro hh; exact ⟨hh, hw⟩))) | omega | exact ent (by kernel_rfl) | (intro hgd; exact absurd hgd (by decide)) | rfl | (simp only [go_sem, reduceIte, reduceCtorEq, Nat.reduceAdd, Nat.reduceMul, Nat.reduceEqDiff, Nat.reduceLT, Nat.reduceLeDiff, Nat.reduceSub, Nat.reducePow, Nat.reduceBEq, Int.reduceToNat, List.reduceReplicate]; done) | (intro _hgd; simp_all [go_sem]; done)
  refine hK3 _ _ _ ?_; clear hK3
  -- cond 1
  refine AW.cond rfl (by simp only [go_sem, reduceIte, reduceCtorEq, Nat.reduceAdd, Nat.reduceMul, Nat.reduceEqDiff, Nat.reduceLT, Nat.reduceLeDiff, Nat.reduceSub, Nat.reducePow, Nat.reduceBEq, Int.reduceToNat, List.reduceReplicate]) ?_ ?_
  · intro hb
    try simp only [hB, decide_eq_true_eq, decide_eq_false_iff_not] at hb
    refine AW.seq fun K4 hK4 => ?_
    -- region 2
    refine AW.regionK 0 (fun ii => if ii = 0 then some (.reads false (.bool true)) else none) [4] [] ?_
    simp only [go_sem, reduceIte, reduceCtorEq, Nat.reduceAdd, Nat.reduceMul, Nat.reduceEqDiff, Nat.reduceLT, Nat.reduceLeDiff, Nat.reduceSub, Nat.reducePow, Nat.reduceBEq, Int.reduceToNat, List.reduceReplicate]
    repeat with_reducible refine cj ?_ ?_
    all_goals try first | (exact ha) | omega | exact ent (by kernel_rfl)
    refine hK4 _ _ _ ?_; clear hK4
    refine AW.ret ?_
    rw [← hQr]
    simp only [go_sem, reduceIte, reduceCtorEq, Nat.reduceAdd, Nat.reduceMul, Nat.reduceEqDiff, Nat.reduceLT, Nat.reduceLeDiff, Nat.reduceSub, Nat.reducePow, Nat.reduceBEq, Int.reduceToNat, List.reduceReplicate]
    exact Wk.refl _
  · intro hb
    try simp only [hB, decide_eq_true_eq, decide_eq_false_iff_not] at hb
    exfalso; rcases h with h | h; rw [h] at hb; simp at hb; omega
theorem closes_b (rs : List USet) (hl : longR rs) (N : Int) (W : List Int) (hlW : W.length ≤ 20) (hf : fewB rs = true) (v sv : Bool) (hv : Reads Tryd.prog 15 false [relV rs] (.bool v)) (hsv : Reads Tryd.prog 20 false [relV rs, .agg [.int .i64 N, .rsl 1 (words W)]] (.bool sv)) (h : (v && sv) = false)
    (hm : Reads Tryd.prog 55 false [relV rs, .agg [.int .i64 N, .rsl 1 (words W)]] (.bool false)) : Reads Tryd.prog 9 false [relV rs, .agg [.int .i64 N, .rsl 1 (words W)]] (.bool true) := by
  have ha := awake_r
  have hw := few_r rs hl
  rw [hf] at hw
  have h1 := down_e (rs.map rowV) N W hm
  have h2 := up_e (rs.map rowV) N W hm
  have h3 := restrict_e (rs.map rowV) N W hm
  have h4 := noset_r
  have h5 := none_r [] (by decide)
  unfold relV at *
  refine Reads.body (rs := [.tmp 4]) Tryd.func9 rfl Tryd.ntmps9 rfl (by simp) ?_
  generalize hQr : retQ _ _ _ = Qr
  refine AW.seq fun K1 hK1 => ?_
  -- region 0
  refine AW.regionK 0 (fun _ => none) [2, 3] [2, 3] ?_
  simp only [go_sem, reduceIte, reduceCtorEq, Nat.reduceAdd, Nat.reduceMul, Nat.reduceEqDiff, Nat.reduceLT, Nat.reduceLeDiff, Nat.reduceSub, Nat.reducePow, Nat.reduceBEq, Int.reduceToNat, List.reduceReplicate]
  repeat with_reducible refine cj ?_ ?_
  all_goals try first | omega
  refine hK1 _ _ _ ?_; clear hK1
  refine AW.seq fun K2 hK2 => ?_
  refine AW.seq fun K3 hK3 => ?_
  -- region 1
  refine AW.regionK 0 (fun ii => if ii = 0 then some (.reads false (.bool true)) else if ii = 4 then some (.reads false (.bool true)) else none) [2, 3, 23] [2, 3] ?_
  simp only [go_sem, reduceIte, reduceCtorEq, Nat.reduceAdd, Nat.reduceMul, Nat.reduceEqDiff, Nat.reduceLT, Nat.reduceLeDiff, Nat.reduceSub, Nat.reducePow, Nat.reduceBEq, Int.reduceToNat, List.reduceReplicate]
  repeat with_reducible refine cj ?_ ?_
  all_goals try first | (first | exact ha | (intro hh; exact ⟨hh, hw⟩)) | (intros; (repeat' apply And.intro) <;> first | assumption | (first | exact ha | (intro hh; exact ⟨hh, hw⟩))) | omega | exact ent (by kernel_rfl) | (intro hgd; exact absurd hgd (by decide)) | rfl | (simp only [go_sem, reduceIte, reduceCtorEq, Nat.reduceAdd, Nat.reduceMul, Nat.reduceEqDiff, Nat.reduceLT, Nat.reduceLeDiff, Nat.reduceSub, Nat.reducePow, Nat.reduceBEq, Int.reduceToNat, List.reduceReplicate]; done) | (intro _hgd; simp_all [go_sem]; done)
  refine hK3 _ _ _ ?_; clear hK3
  -- cond 1
  refine AW.cond rfl (by simp only [go_sem, reduceIte, reduceCtorEq, Nat.reduceAdd, Nat.reduceMul, Nat.reduceEqDiff, Nat.reduceLT, Nat.reduceLeDiff, Nat.reduceSub, Nat.reducePow, Nat.reduceBEq, Int.reduceToNat, List.reduceReplicate]) ?_ ?_
  · intro hb
    try simp only [hB, decide_eq_true_eq, decide_eq_false_iff_not] at hb
    exfalso; first | omega | (simp at hb; omega)
  · intro hb
    try simp only [hB, decide_eq_true_eq, decide_eq_false_iff_not] at hb
    refine AW.skip ?_
    refine hK2 _ _ _ ?_; clear hK2
    refine AW.seq fun K4 hK4 => ?_
    -- region 3
    refine AW.regionK 0 (fun ii => if ii = 2 then some (.reads false (.tup [.agg [.int .i64 0, .rsl 1 []], .int .i64 ((1 : Nat) : Int)])) else none) [2, 3, 5, 6] [2, 3, 5] ?_
    simp only [go_sem, reduceIte, reduceCtorEq, Nat.reduceAdd, Nat.reduceMul, Nat.reduceEqDiff, Nat.reduceLT, Nat.reduceLeDiff, Nat.reduceSub, Nat.reducePow, Nat.reduceBEq, Int.reduceToNat, List.reduceReplicate]
    repeat with_reducible refine cj ?_ ?_
    all_goals try first | (exact h1) | omega | exact ent (by kernel_rfl)
    refine hK4 _ _ _ ?_; clear hK4
    refine AW.seq fun K5 hK5 => ?_
    -- region 4
    refine AW.regionK 0 (fun ii => if ii = 2 then some (.reads false (.tup [.agg [.int .i64 0, .rsl 1 []], .int .i64 ((1 : Nat) : Int)])) else none) [2, 3, 5, 6, 7, 8] [2, 3, 5, 7] ?_
    simp only [go_sem, reduceIte, reduceCtorEq, Nat.reduceAdd, Nat.reduceMul, Nat.reduceEqDiff, Nat.reduceLT, Nat.reduceLeDiff, Nat.reduceSub, Nat.reducePow, Nat.reduceBEq, Int.reduceToNat, List.reduceReplicate]
    repeat with_reducible refine cj ?_ ?_
    all_goals try first | (exact h2) | omega | exact ent (by kernel_rfl)
    refine hK5 _ _ _ ?_; clear hK5
    refine AW.seq fun K6 hK6 => ?_
    -- region 5
    refine AW.regionK 0 (fun ii => if ii = 2 then some (.reads false (.tup [.agg [.rsl 2 []], .int .i64 ((1 : Nat) : Int)])) else none) [2, 3, 5, 6, 7, 8, 9, 10] [2, 3, 5, 7, 9] ?_
    simp only [go_sem, reduceIte, reduceCtorEq, Nat.reduceAdd, Nat.reduceMul, Nat.reduceEqDiff, Nat.reduceLT, Nat.reduceLeDiff, Nat.reduceSub, Nat.reducePow, Nat.reduceBEq, Int.reduceToNat, List.reduceReplicate]
    repeat with_reducible refine cj ?_ ?_
    all_goals try first | (exact h3) | omega | exact ent (by kernel_rfl)
    refine hK6 _ _ _ ?_; clear hK6
    refine AW.seq fun K7 hK7 => ?_
    refine AW.seq fun K8 hK8 => ?_
    -- region 6
    refine AW.regionK 0 (fun ii => if ii = 1 then some (.reads false (.bool v)) else if ii = 6 then some (.reads false (.bool sv)) else none) [2, 3, 5, 6, 7, 8, 9, 10, 51] [2, 3, 5, 7, 9] ?_
    simp only [go_sem, reduceIte, reduceCtorEq, Nat.reduceAdd, Nat.reduceMul, Nat.reduceEqDiff, Nat.reduceLT, Nat.reduceLeDiff, Nat.reduceSub, Nat.reducePow, Nat.reduceBEq, Int.reduceToNat, List.reduceReplicate]
    repeat with_reducible refine cj ?_ ?_
    all_goals try first | (first | exact hv | (intro hh; exact ⟨hh, hsv⟩)) | (intros; (repeat' apply And.intro) <;> first | assumption | (first | exact hv | (intro hh; exact ⟨hh, hsv⟩))) | omega | exact ent (by kernel_rfl) | (intro hgd; exact absurd hgd (by decide)) | rfl | (simp only [go_sem, reduceIte, reduceCtorEq, Nat.reduceAdd, Nat.reduceMul, Nat.reduceEqDiff, Nat.reduceLT, Nat.reduceLeDiff, Nat.reduceSub, Nat.reducePow, Nat.reduceBEq, Int.reduceToNat, List.reduceReplicate]; done) | (intro _hgd; simp_all [go_sem]; done)
    refine hK8 _ _ _ ?_; clear hK8
    -- cond 2
    refine AW.cond rfl (by simp only [go_sem, reduceIte, reduceCtorEq, Nat.reduceAdd, Nat.reduceMul, Nat.reduceEqDiff, Nat.reduceLT, Nat.reduceLeDiff, Nat.reduceSub, Nat.reducePow, Nat.reduceBEq, Int.reduceToNat, List.reduceReplicate]) ?_ ?_
    · intro hb
      try simp only [hB, decide_eq_true_eq, decide_eq_false_iff_not] at hb
      refine AW.seq fun K9 hK9 => ?_
      -- region 7
      refine AW.regionK 0 (fun ii => if ii = 1 then some (.reads false (.bool true)) else if ii = 8 then some (.reads false (.bool true)) else if ii = 16 then some (.reads false (.bool true)) else none) [4] [] ?_
      simp only [go_sem, reduceIte, reduceCtorEq, Nat.reduceAdd, Nat.reduceMul, Nat.reduceEqDiff, Nat.reduceLT, Nat.reduceLeDiff, Nat.reduceSub, Nat.reducePow, Nat.reduceBEq, Int.reduceToNat, List.reduceReplicate]
      repeat with_reducible refine cj ?_ ?_
      all_goals try first | (first | exact h4 | (intro hh; exact ⟨hh, h4⟩) | (intro hh; exact ⟨hh, h5⟩)) | (intros; (repeat' apply And.intro) <;> first | assumption | (first | exact h4 | (intro hh; exact ⟨hh, h4⟩) | (intro hh; exact ⟨hh, h5⟩))) | omega | exact ent (by kernel_rfl) | (intro hgd; exact absurd hgd (by decide)) | rfl | (simp only [go_sem, reduceIte, reduceCtorEq, Nat.reduceAdd, Nat.reduceMul, Nat.reduceEqDiff, Nat.reduceLT, Nat.reduceLeDiff, Nat.reduceSub, Nat.reducePow, Nat.reduceBEq, Int.reduceToNat, List.reduceReplicate]; done) | (intro _hgd; simp_all [go_sem]; done)
      refine hK9 _ _ _ ?_; clear hK9
      refine AW.ret ?_
      rw [← hQr]
      simp only [go_sem, reduceIte, reduceCtorEq, Nat.reduceAdd, Nat.reduceMul, Nat.reduceEqDiff, Nat.reduceLT, Nat.reduceLeDiff, Nat.reduceSub, Nat.reducePow, Nat.reduceBEq, Int.reduceToNat, List.reduceReplicate]
      exact Wk.of_eq (by simp)
    · intro hb
      try simp only [hB, decide_eq_true_eq, decide_eq_false_iff_not] at hb
      exfalso; revert h hb; cases v <;> cases sv <;> simp
theorem closes_g (n : Nat) (t : List (List Bool)) (hs : Sq n t) (hn : n ≤ 512) (hf : fewB (t.map SB) = true) (hp : poB n t = true) (b : List Bool) (hb0 : b.length = n) : Reads Tryd.prog 9 false [relB t, .agg (rowB b)] (.bool true) := by
  have ha := awake_r
  have hw := few_r (t.map SB) (longR_SB hs hn)
  rw [hf, ← relB_SB] at hw
  have hv := rpvalid_g n t hs hn
  rw [hp] at hv
  have hlt : (tabR t).length = n := by rw [tabR_len, hs.len]
  have hsv := rset_r (tabR t) (by omega) b.length (setW b b.length) (setW_ok b) (by have := setB_len (b := b) (by omega); omega)
  rw [validS_setW (by omega), hlt, hb0, decide_eq_true rfl, Bool.true_and] at hsv
  have hsv : Reads Tryd.prog 20 false [relB t, .agg (rowB b)] (.bool true) := by unfold rowB; rw [hb0]; exact hsv
  have hwl : (setW b b.length).length ≤ 20 := by rw [setW_len']; have := wordsN_rng (n := (b.length : Int)) (by omega); omega
  have h1 := down_g n t hs hn hp b hb0
  have h2 := up_g n t hs hn hp b hb0
  have h3 := restrict_g n t hs hn hp b hb0
  have h4 := rdown_r n t hs hn b hb0
  have h5 := rup_r n t hs hn b hb0
  have h6 := (rrestrict_r n t hs hn b hb0).old
  have hDl := upT_len n (invT n t) b
  have hUl := upT_len n t b
  have hRs := resT_sq t (memB b)
  have hml := memB_le b
  generalize upT n (invT n t) b = D at *
  generalize upT n t b = U at *
  generalize resT t (memB b) = R at *
  have h7 := rsameb_r D (by omega)
  have h8 := rsameb_r U (by omega)
  have h9 := rsamet_r hRs (by omega)
  unfold relB rowB at *
  simp only [hDl, hUl, hb0] at *
  refine Reads.body (rs := [.tmp 4]) Tryd.func9 rfl Tryd.ntmps9 rfl (by simp) ?_
  generalize hQr : retQ _ _ _ = Qr
  refine AW.seq fun K1 hK1 => ?_
  -- region 0
  refine AW.regionK 0 (fun _ => none) [2, 3] [2, 3] ?_
  simp only [go_sem, reduceIte, reduceCtorEq, Nat.reduceAdd, Nat.reduceMul, Nat.reduceEqDiff, Nat.reduceLT, Nat.reduceLeDiff, Nat.reduceSub, Nat.reducePow, Nat.reduceBEq, Int.reduceToNat, List.reduceReplicate, hlt]
  repeat with_reducible refine cj ?_ ?_
  all_goals try first | omega
  refine hK1 _ _ _ ?_; clear hK1
  refine AW.seq fun K2 hK2 => ?_
  refine AW.seq fun K3 hK3 => ?_
  -- region 1
  refine AW.regionK 0 (fun ii => if ii = 0 then some (.reads false (.bool true)) else if ii = 4 then some (.reads false (.bool true)) else none) [2, 3, 23] [2, 3] ?_
  simp only [go_sem, reduceIte, reduceCtorEq, Nat.reduceAdd, Nat.reduceMul, Nat.reduceEqDiff, Nat.reduceLT, Nat.reduceLeDiff, Nat.reduceSub, Nat.reducePow, Nat.reduceBEq, Int.reduceToNat, List.reduceReplicate, hlt]
  repeat with_reducible refine cj ?_ ?_
  all_goals try first | (first | exact ha | (intro hh; exact ⟨hh, hw⟩)) | (intros; (repeat' apply And.intro) <;> first | assumption | (first | exact ha | (intro hh; exact ⟨hh, hw⟩))) | omega | exact ent (by kernel_rfl) | (intro hgd; exact absurd hgd (by decide)) | rfl | (simp only [go_sem, reduceIte, reduceCtorEq, Nat.reduceAdd, Nat.reduceMul, Nat.reduceEqDiff, Nat.reduceLT, Nat.reduceLeDiff, Nat.reduceSub, Nat.reducePow, Nat.reduceBEq, Int.reduceToNat, List.reduceReplicate, hlt]; done) | (intro _hgd; simp_all [go_sem]; done)
  refine hK3 _ _ _ ?_; clear hK3
  -- cond 1
  refine AW.cond rfl (by simp only [go_sem, reduceIte, reduceCtorEq, Nat.reduceAdd, Nat.reduceMul, Nat.reduceEqDiff, Nat.reduceLT, Nat.reduceLeDiff, Nat.reduceSub, Nat.reducePow, Nat.reduceBEq, Int.reduceToNat, List.reduceReplicate]) ?_ ?_
  · intro hb
    try simp only [hB, decide_eq_true_eq, decide_eq_false_iff_not] at hb
    exfalso; first | omega | (simp at hb; omega)
  · intro hb
    try simp only [hB, decide_eq_true_eq, decide_eq_false_iff_not] at hb
    refine AW.skip ?_
    refine hK2 _ _ _ ?_; clear hK2
    refine AW.seq fun K4 hK4 => ?_
    -- region 3
    refine AW.regionK 0 (fun ii => if ii = 2 then some (.reads false (.tup [.agg [.int .i64 n, .rsl 1 (words (setW D n))], .int .i64 ((0 : Nat) : Int)])) else none) [2, 3, 5, 6] [2, 3, 5] ?_
    simp only [go_sem, reduceIte, reduceCtorEq, Nat.reduceAdd, Nat.reduceMul, Nat.reduceEqDiff, Nat.reduceLT, Nat.reduceLeDiff, Nat.reduceSub, Nat.reducePow, Nat.reduceBEq, Int.reduceToNat, List.reduceReplicate, hlt]
    repeat with_reducible refine cj ?_ ?_
    all_goals try first | (exact h1) | omega | exact ent (by kernel_rfl)
    refine hK4 _ _ _ ?_; clear hK4
    refine AW.seq fun K5 hK5 => ?_
    -- region 4
    refine AW.regionK 0 (fun ii => if ii = 2 then some (.reads false (.tup [.agg [.int .i64 n, .rsl 1 (words (setW U n))], .int .i64 ((0 : Nat) : Int)])) else none) [2, 3, 5, 6, 7, 8] [2, 3, 5, 7] ?_
    simp only [go_sem, reduceIte, reduceCtorEq, Nat.reduceAdd, Nat.reduceMul, Nat.reduceEqDiff, Nat.reduceLT, Nat.reduceLeDiff, Nat.reduceSub, Nat.reducePow, Nat.reduceBEq, Int.reduceToNat, List.reduceReplicate, hlt]
    repeat with_reducible refine cj ?_ ?_
    all_goals try first | (exact h2) | omega | exact ent (by kernel_rfl)
    refine hK5 _ _ _ ?_; clear hK5
    refine AW.seq fun K6 hK6 => ?_
    -- region 5
    refine AW.regionK 0 (fun ii => if ii = 2 then some (.reads false (.tup [.agg [.rsl 2 (tabR R)], .int .i64 ((0 : Nat) : Int)])) else none) [2, 3, 5, 6, 7, 8, 9, 10] [2, 3, 5, 7, 9] ?_
    simp only [go_sem, reduceIte, reduceCtorEq, Nat.reduceAdd, Nat.reduceMul, Nat.reduceEqDiff, Nat.reduceLT, Nat.reduceLeDiff, Nat.reduceSub, Nat.reducePow, Nat.reduceBEq, Int.reduceToNat, List.reduceReplicate, hlt]
    repeat with_reducible refine cj ?_ ?_
    all_goals try first | (exact h3) | omega | exact ent (by kernel_rfl)
    refine hK6 _ _ _ ?_; clear hK6
    refine AW.seq fun K7 hK7 => ?_
    refine AW.seq fun K8 hK8 => ?_
    -- region 6
    refine AW.regionK 0 (fun ii => if ii = 1 then some (.reads false (.bool true)) else if ii = 6 then some (.reads false (.bool true)) else none) [2, 3, 5, 6, 7, 8, 9, 10, 51] [2, 3, 5, 7, 9] ?_
    simp only [go_sem, reduceIte, reduceCtorEq, Nat.reduceAdd, Nat.reduceMul, Nat.reduceEqDiff, Nat.reduceLT, Nat.reduceLeDiff, Nat.reduceSub, Nat.reducePow, Nat.reduceBEq, Int.reduceToNat, List.reduceReplicate, hlt]
    repeat with_reducible refine cj ?_ ?_
    all_goals try first | (first | exact hv | (intro hh; exact ⟨hh, hsv⟩)) | (intros; (repeat' apply And.intro) <;> first | assumption | (first | exact hv | (intro hh; exact ⟨hh, hsv⟩))) | omega | exact ent (by kernel_rfl) | (intro hgd; exact absurd hgd (by decide)) | rfl | (simp only [go_sem, reduceIte, reduceCtorEq, Nat.reduceAdd, Nat.reduceMul, Nat.reduceEqDiff, Nat.reduceLT, Nat.reduceLeDiff, Nat.reduceSub, Nat.reducePow, Nat.reduceBEq, Int.reduceToNat, List.reduceReplicate, hlt]; done) | (intro _hgd; simp_all [go_sem]; done)
    refine hK8 _ _ _ ?_; clear hK8
    -- cond 2
    refine AW.cond rfl (by simp only [go_sem, reduceIte, reduceCtorEq, Nat.reduceAdd, Nat.reduceMul, Nat.reduceEqDiff, Nat.reduceLT, Nat.reduceLeDiff, Nat.reduceSub, Nat.reducePow, Nat.reduceBEq, Int.reduceToNat, List.reduceReplicate]) ?_ ?_
    · intro hb
      try simp only [hB, decide_eq_true_eq, decide_eq_false_iff_not] at hb
      simp at hb
    · intro hb
      try simp only [hB, decide_eq_true_eq, decide_eq_false_iff_not] at hb
      refine AW.skip ?_
      refine hK7 _ _ _ ?_; clear hK7
      refine AW.seq fun K9 hK9 => ?_
      -- region 8
      refine AW.regionD mixed 0 (fun ii => if ii = 3 then some (.reads false (.agg [.int .i64 n, .rsl 1 (words (setW D n))])) else if ii = 4 then some (.reads false (.bool true)) else if ii = 13 then some (.reads false (.agg [.int .i64 n, .rsl 1 (words (setW U n))])) else if ii = 14 then some (.reads false (.bool true)) else if ii = 24 then some (.reads false (.agg [.rsl 2 (tabR R)])) else if ii = 25 then some (.reads false (.bool true)) else none) [4] [] ?_
      simp only [go_sem, reduceIte, reduceCtorEq, Nat.reduceAdd, Nat.reduceMul, Nat.reduceEqDiff, Nat.reduceLT, Nat.reduceLeDiff, Nat.reduceSub, Nat.reducePow, Nat.reduceBEq, Int.reduceToNat, List.reduceReplicate, hlt]
      repeat with_reducible refine cj ?_ ?_
      all_goals try first | (first | exact h4 | exact h7 | exact ⟨rfl, h7⟩ | (intro hh; first | exact ⟨hh, h5⟩ | exact ⟨hh, h8⟩ | exact ⟨hh, h6⟩ | exact ⟨hh, h9⟩ | exact h5 | exact h8 | exact h6 | exact h9 | exact ⟨hh, rfl, h8⟩ | exact ⟨hh, rfl, h9⟩)) | (intros; (repeat' apply And.intro) <;> first | assumption | (first | exact h4 | exact h7 | exact ⟨rfl, h7⟩ | (intro hh; first | exact ⟨hh, h5⟩ | exact ⟨hh, h8⟩ | exact ⟨hh, h6⟩ | exact ⟨hh, h9⟩ | exact h5 | exact h8 | exact h6 | exact h9 | exact ⟨hh, rfl, h8⟩ | exact ⟨hh, rfl, h9⟩))) | omega | exact chk (by kernel_rfl) | exact ent (by kernel_rfl) | (intro hgd; exact absurd hgd (by decide)) | rfl | (simp only [go_sem, reduceIte, reduceCtorEq, Nat.reduceAdd, Nat.reduceMul, Nat.reduceEqDiff, Nat.reduceLT, Nat.reduceLeDiff, Nat.reduceSub, Nat.reducePow, Nat.reduceBEq, Int.reduceToNat, List.reduceReplicate, hlt]; done) | (intro _hgd; simp_all [go_sem]; done)
      refine hK9 _ _ _ ?_; clear hK9
      refine AW.ret ?_
      rw [← hQr]
      simp only [go_sem, reduceIte, reduceCtorEq, Nat.reduceAdd, Nat.reduceMul, Nat.reduceEqDiff, Nat.reduceLT, Nat.reduceLeDiff, Nat.reduceSub, Nat.reducePow, Nat.reduceBEq, Int.reduceToNat, List.reduceReplicate, hlt]
      exact Wk.of_eq (by simp)
theorem law_closes (rs : List USet) (hl : longR rs) (hok : ∀ x ∈ rs, okW x.W) (N : Int) (W : List Int) (hW : okW W) (hlW : W.length ≤ 9223372036854775807) : Reads Tryd.prog 9 false [relV rs, .agg [.int .i64 N, .rsl 1 (words W)]] (.bool true) := by
  cases hf : fewB rs
  · exact closes_0 rs hl N W hlW (.inl hf)
  by_cases hw : 20 < W.length
  · exact closes_0 rs hl N W hlW (.inr hw)
  rcases set_cases rs hl hok N W hW hlW with ⟨t, b, ht, hs, hn, hp, hb, rfl, rfl⟩ | ⟨v, sv, h1, h2, h3, h4⟩
  · have := closes_g _ t hs hn (by rw [← ht]; exact hf) hp b hb
    rw [relB_SB, ← ht] at this
    exact this
  · exact closes_b rs hl N W (by omega) hf v sv h1 h2 h3 h4
end Go.Proofs.P

/- Arguments that are read as data, as pure trees. -/
namespace Go.AM

inductive F2 {α β : Type} (R : α → β → Prop) : List α → List β → Prop
  | nil : F2 R [] []
  | cons {a b l r} (h : R a b) (t : F2 R l r) : F2 R (a :: l) (b :: r)

/-- The shape of a type's cells. -/
def Fit (P : Program) : Nat → TypeId → List AV → Prop
  | 0, _, _ => False
  | f + 1, t, avs => match P.underlying t with
    | some .bool => ∃ b, avs = [.bool b]
    | some (.int k) => ∃ n, avs = [.int k n] ∧ k.min ≤ n ∧ n ≤ k.max
    | some .string => ∃ s, avs = [.str s]
    | some (.slice e) => P.cellsOf e = 0 ∨ ∃ es, avs = [.rsl (P.cellsOf e) es] ∧ es.length ≤ maxLen ∧ ∀ x ∈ es, x.length = P.cellsOf e ∧ Fit P f e x
    | some (.struct fs) => ∃ parts : List (List AV), avs = parts.flatten ∧ F2 (fun (fl : Field) p => p.length = P.cellsOf fl.type ∧ Fit P f fl.type p) fs.toList parts
    | some (.array n e) => ∃ parts : List (List AV), avs = parts.flatten ∧ parts.length = n ∧ ∀ p ∈ parts, p.length = P.cellsOf e ∧ Fit P f e p
    | _ => True

abbrev immW (w : World) : Nat → Prop := immF w fun _ => False
def Match (w : World) (avs : List AV) (cs : List Value) : Prop := avs.length = cs.length ∧ ∀ i, i < avs.length → RelP (immW w) w (avs.getD i .any) (cs.getD i undef)

theorem Match.append {w : World} {a a' : List AV} {c c' : List Value} (h : Match w a c) (h' : Match w a' c') : Match w (a ++ a') (c ++ c') := by
  obtain ⟨h1, h2⟩ := h
  obtain ⟨k1, k2⟩ := h'
  refine ⟨by simp [h1, k1], fun i hi => ?_⟩
  rw [getD_append, getD_append, ← h1]
  by_cases hlt : i < a.length
  · rw [if_pos hlt, if_pos hlt]; exact h2 i hlt
  · rw [if_neg hlt, if_neg hlt]
    exact k2 _ (by simp at hi; omega)
theorem Match.one {w : World} {a : AV} {u : Value} (h : RelP (immW w) w a u) : Match w [a] [u] := ⟨rfl, fun i hi => by
  match i, hi with
  | 0, _ => exact h⟩

theorem mapM_some {α β : Type} {f : α → Option β} : ∀ {l : List α} {r : List β}, l.mapM f = some r → F2 (fun a b => f a = some b) l r
  | [], r, h => by
    simp only [List.mapM_nil, Option.pure_def, Option.some.injEq] at h
    subst h; exact .nil
  | a :: l, r, h => by
    rw [List.mapM_cons] at h
    cases ha : f a with
    | none => simp [ha] at h
    | some b =>
      cases hl : l.mapM f with
      | none => simp [ha, hl] at h
      | some r' =>
        simp [ha, hl] at h
        subst h
        exact .cons ha (mapM_some hl)

theorem range_mapM {β : Type} {f : Nat → Option β} {n : Nat} {r : List β} (h : (List.range n).mapM f = some r) : r.length = n ∧ ∀ i, i < n → ∃ b, r[i]? = some b ∧ f i = some b := by
  have h2 := mapM_some h
  have key : ∀ {l : List Nat} {r : List β}, F2 (fun a b => f a = some b) l r → r.length = l.length ∧ ∀ (i a : Nat), l[i]? = some a → ∃ b, r[i]? = some b ∧ f a = some b := by
    intro l r h
    induction h with
    | nil => exact ⟨rfl, by simp⟩
    | cons h t ih =>
      refine ⟨by simp [ih.1], fun i a ha => ?_⟩
      cases i with
      | zero => simp only [List.getElem?_cons_zero, Option.some.injEq] at ha; subst ha; exact ⟨_, rfl, h⟩
      | succ i => simpa using ih.2 i a (by simpa using ha)
  obtain ⟨k1, k2⟩ := key h2
  refine ⟨by simpa using k1, fun i hi => k2 i i (by simp [hi])⟩

theorem cells?_spec {w : World} {a : Addr} {n : Nat} {cs : List Value} (h : w.cells? 0 a n = some cs) : cs.length = n ∧ ∀ j, j < n → w.cell? (a.add j) = some (cs.getD j undef) := by
  simp only [World.cells?, Nat.zero_le, if_true] at h
  obtain ⟨h1, h2⟩ := range_mapM h
  refine ⟨h1, fun j hj => ?_⟩
  obtain ⟨b, e1, e2⟩ := h2 j hj
  rw [e2, List.getD_eq_getElem?_getD, e1]; rfl

theorem cell?_spot {w : World} {a : Addr} {v : Value} (h : w.cell? a = some v) : a.spot = none ∧ a.block < w.heap.size := by
  unfold World.cell? at h
  split at h
  · rename_i c _ _ hh
    split at h
    · cases h
    · rename_i hs
      exact ⟨by simpa using hs, heap_lt hh⟩
  · cases h

theorem chunks_struct {P : Program} (cs : List Value) : ∀ (fs : List Field) (o : Nat), (∀ (j : Nat) f, fs[j]? = some f → f.offset = o + ((fs.take j).map fun f => P.cellsOf f.type).sum) →
    (fs.map fun f => (cs.drop f.offset).take (P.cellsOf f.type)).flatten = (cs.drop o).take ((fs.map fun f => P.cellsOf f.type).sum)
  | [], o, _ => by simp
  | f :: fs, o, h => by
    have h0 := h 0 f rfl
    simp at h0
    have ih := chunks_struct (P := P) cs fs (o + P.cellsOf f.type) fun j g hj => by
      have := h (j + 1) g (by simpa using hj)
      rw [this]
      simp [Nat.add_assoc]
    simp only [List.map_cons, List.flatten_cons, List.sum_cons, ih, h0]
    rw [List.take_add, List.drop_drop]

theorem chunks_array (cs : List Value) (m : Nat) : ∀ n, ((List.range n).map fun i => (cs.drop (i * m)).take m).flatten = cs.take (n * m)
  | 0 => by simp
  | n + 1 => by
    rw [List.range_succ, List.map_append, List.flatten_append, chunks_array cs m n, Nat.succ_mul, List.take_add]
    simp

theorem match_flatten {α : Type} {w : World} {g : α → List Value} {p : α → List AV → Prop} : ∀ {l : List α} {parts : List (List AV)}, F2 (fun a x => p a x ∧ Match w x (g a)) l parts → Match w parts.flatten (l.map g).flatten
  | _, _, .nil => ⟨rfl, by simp⟩
  | _, _, .cons h t => by
    simp only [List.flatten_cons, List.map_cons]
    exact h.2.append (match_flatten t)

theorem forall2_imp {α β : Type} {R S : α → β → Prop} (h : ∀ a b, R a b → S a b) : ∀ {l : List α} {r : List β}, F2 R l r → F2 S l r
  | _, _, .nil => .nil
  | _, _, .cons h1 t => .cons (h _ _ h1) (forall2_imp h t)
theorem forall2_len {α β : Type} {R : α → β → Prop} : ∀ {l : List α} {r : List β}, F2 R l r → l.length = r.length
  | _, _, .nil => rfl
  | _, _, .cons _ t => by simp [forall2_len t]
theorem forall2_right {α β : Type} {R : α → β → Prop} {Q : β → Prop} (h : ∀ a b, R a b → Q b) : ∀ {l : List α} {r : List β}, F2 R l r → ∀ b ∈ r, Q b
  | _, _, .nil, b, hb => by cases hb
  | _, _, .cons h1 t, b, hb => by
    rcases List.mem_cons.1 hb with rfl | hb
    · exact h _ _ h1
    · exact forall2_right h t b hb

theorem fit_of_trod {H : Type} {enc : TypeId × Value → H} {P : Program} {w : World} (hl : laidOutB P = true) : ∀ (n : Nat) (t : TypeId) (cs : List Value) (x : DataW H × List MemPlace), t < P.types.size →
    DataW.trod enc P w 0 (fun _ => true) true n t cs = some x → ∃ avs, Fit P n t avs ∧ Match w avs cs := by
  intro n
  induction n with
  | zero => intro t cs x _ h; simp [DataW.trod] at h
  | succ n ih =>
    intro t cs x ht h
    have hany : (match P.underlying t with | some .bool | some (.int _) | some .string | some (.slice _) | some (.struct _) | some (.array _ _) => False | _ => True) → ∃ avs, Fit P (n + 1) t avs ∧ Match w avs cs := fun hh => by
      refine ⟨List.replicate cs.length .any, ?_, by simp, fun i hi => ?_⟩
      · unfold Fit
        split <;> simp_all
      · have : (List.replicate cs.length AV.any).getD i .any = .any := by
          simp only [List.getD_eq_getElem?_getD]
          cases h : (List.replicate cs.length AV.any)[i]? with
          | none => rfl
          | some y => simp [List.getElem?_replicate] at h; simp [h.2]
        rw [this]; exact .any _
    by_cases hh : (match P.underlying t with | some .bool | some (.int _) | some .string | some (.slice _) | some (.struct _) | some (.array _ _) => False | _ => True)
    · exact hany hh
    cases hu : P.underlying t with
    | none => exact absurd (by rw [hu]; trivial) hh
    | some d =>
      rw [hu] at hh
      cases d <;> first | exact absurd trivial hh | skip
      case bool =>
        unfold DataW.trod at h
        rw [hu] at h
        rcases cs with _ | ⟨c, _ | ⟨c2, rest⟩⟩ <;> (try cases c) <;> simp at h
        exact ⟨[.bool _], by unfold Fit; rw [hu]; exact ⟨_, rfl⟩, .one (.bool _)⟩
      case int k =>
        unfold DataW.trod at h
        rw [hu] at h
        rcases cs with _ | ⟨c, _ | ⟨c2, rest⟩⟩ <;> (try cases c) <;> simp at h
        rename_i k' m
        obtain ⟨⟨rfl, h1⟩, _⟩ := h
        exact ⟨[.int k' m], by unfold Fit; rw [hu]; exact ⟨_, rfl, by simpa [Lit.wf] using h1⟩, .one (.int _ _)⟩
      case string =>
        unfold DataW.trod at h
        rw [hu] at h
        rcases cs with _ | ⟨c, _ | ⟨c2, rest⟩⟩ <;> (try cases c) <;> simp at h
        exact ⟨[.str _], by unfold Fit; rw [hu]; exact ⟨_, rfl⟩, .one (.str _)⟩
      case slice e =>
        have he := kid_slice hl ht hu
        unfold DataW.trod at h
        rw [hu] at h
        have hbad : ∀ c c2 rest, cs ≠ c :: c2 :: rest := fun c c2 rest e => by subst e; cases c <;> simp at h
        rcases cs with _ | ⟨c, _ | ⟨c2, rest⟩⟩
        · simp at h
        rotate_left
        · exact absurd rfl (hbad _ _ _)
        cases c <;> first | (simp at h; done) | skip
        rename_i a len cap
        cases a with
        | none =>
          rcases len with _ | len <;> rcases cap with _ | cap <;> first | (simp at h; done) | skip
          exact ⟨[.rsl (P.cellsOf e) []], by unfold Fit; rw [hu]; exact .inr ⟨[], rfl, by simp, by simp⟩, .one (.rnil _ _ _)⟩
        | some a =>
          dsimp only at h
          split at h
          · rename_i hb
            cases hm : (List.range len).mapM (fun i => (w.cells? 0 (a.add (i * P.cellsOf e)) (P.cellsOf e)).bind (DataW.trod enc P w 0 (fun _ => true) true n e)) with
            | none => rw [hm] at h; simp at h
            | some elems =>
              obtain ⟨k1, k2⟩ := range_mapM hm
              have k3 : ∀ i, i < len → ∃ avs cs', w.cells? 0 (a.add (i * P.cellsOf e)) (P.cellsOf e) = some cs' ∧ Fit P n e avs ∧ Match w avs cs' := fun i hi => by
                obtain ⟨b, _, e2⟩ := k2 i hi
                cases hc : w.cells? 0 (a.add (i * P.cellsOf e)) (P.cellsOf e) with
                | none => rw [hc] at e2; simp at e2
                | some cs' =>
                  rw [hc] at e2
                  obtain ⟨avs, h1, h2⟩ := ih e cs' b he e2
                  exact ⟨avs, cs', rfl, h1, h2⟩
              classical
              let F : Nat → List AV := fun i => if hi : i < len then Classical.choose (k3 i hi) else []
              let es := (List.range len).map F
              have hlen : es.length = len := by simp [es]
              have hget : ∀ i, i < len → es.getD i [] = F i := fun i hi => by simp [es, List.getD_eq_getElem?_getD, hi]
              have hF : ∀ i, i < len → ∃ cs', w.cells? 0 (a.add (i * P.cellsOf e)) (P.cellsOf e) = some cs' ∧ Fit P n e (F i) ∧ Match w (F i) cs' := fun i hi => by
                have := Classical.choose_spec (k3 i hi)
                simp only [F, dif_pos hi]
                exact this
              have hes : ∀ x ∈ es, x.length = P.cellsOf e ∧ Fit P n e x := fun x hx => by
                simp only [es, List.mem_map, List.mem_range] at hx
                obtain ⟨i, hi, rfl⟩ := hx
                obtain ⟨cs', h1, h2, h3⟩ := hF i hi
                exact ⟨h3.1.trans (cells?_spec h1).1, h2⟩
              rcases Nat.eq_zero_or_pos (P.cellsOf e) with hz | hz
              · exact ⟨[.any], by unfold Fit; rw [hu]; exact .inl hz, .one (.any _)⟩
              refine ⟨[.rsl (P.cellsOf e) es], by unfold Fit; rw [hu]; exact .inr ⟨es, rfl, by rw [hlen]; omega, hes⟩, .one ?_⟩
              rcases Nat.eq_zero_or_pos len with h0 | h0
              · have : es = [] := List.length_eq_zero_iff.1 (by omega)
                rw [this, h0]; exact .rnil _ _ _
              · have hcell : ∀ i j, i < len → j < P.cellsOf e → ∃ v, w.cell? ((a.add (i * P.cellsOf e)).add j) = some v ∧ RelP (immW w) w ((es.getD i []).getD j .any) v := fun i j hi hj => by
                  obtain ⟨cs', h1, h2, h3⟩ := hF i hi
                  obtain ⟨g1, g2⟩ := cells?_spec h1
                  refine ⟨_, g2 j hj, ?_⟩
                  rw [hget i hi]
                  exact h3.2 j (by rw [h3.1, g1]; exact hj)
                obtain ⟨v0, g1, _⟩ := hcell 0 0 h0 hz
                simp only [Nat.zero_mul, Addr.add, if_true] at g1
                obtain ⟨hs, hblk⟩ := cell?_spot g1
                obtain ⟨b, off, sp⟩ := a
                simp only at hs
                subst hs
                have hadd : ∀ i j, ((⟨b, off, none⟩ : Addr).add (i * P.cellsOf e)).add j = ⟨b, off + i * P.cellsOf e + j, none⟩ := fun i j => by
                  simp only [Addr.add]
                  split <;> split <;> simp_all
                rw [← hlen]
                refine .rsl _ es b off cap (fun i j => (w.cell? ⟨b, off + i * P.cellsOf e + j, none⟩).getD undef) (by omega) ⟨hblk, fun h => h⟩ (fun x hx => (hes x hx).1) (fun i j hi hj => ?_) (fun i j hi hj => ?_)
                · obtain ⟨v, e1, _⟩ := hcell i j (by omega) hj
                  rw [hadd] at e1
                  simp [e1]
                · obtain ⟨v, e1, e2⟩ := hcell i j (by omega) hj
                  rw [hadd] at e1
                  simpa [e1] using e2
          · cases h
      case struct fs =>
        obtain ⟨hk1, hk2, hk3⟩ := kid_struct hl ht hu
        unfold DataW.trod at h
        rw [hu] at h
        dsimp only at h
        split at h
        · rename_i hlen
          cases hm : (fs.toList.mapM fun f => DataW.trod enc P w 0 (fun _ => true) true n f.type ((cs.drop f.offset).take (P.cellsOf f.type))) with
          | none => rw [hm] at h; simp at h
          | some xs =>
            have h2 := mapM_some hm
            have h3 : ∃ parts : List (List AV), F2 (fun (fl : Field) p => (p.length = P.cellsOf fl.type ∧ Fit P n fl.type p) ∧ Match w p ((cs.drop fl.offset).take (P.cellsOf fl.type))) fs.toList parts := by
              have hall : ∀ f ∈ fs.toList, f.type < P.types.size ∧ f.offset + P.cellsOf f.type ≤ cs.length := fun f hf => by
                refine ⟨hk1 f hf, ?_⟩
                obtain ⟨j, hj, rfl⟩ := List.mem_iff_getElem.1 hf
                have h5 := hk3 j fs.toList[j] (List.getElem?_eq_getElem hj)
                rw [h5, hlen, hk2]
                have h6 : (fs.toList.map fun f => P.cellsOf f.type).sum = ((fs.toList.take j).map fun f => P.cellsOf f.type).sum + ((fs.toList.drop j).map fun f => P.cellsOf f.type).sum := by
                  rw [← List.sum_append, ← List.map_append, List.take_append_drop]
                rw [h6, List.drop_eq_getElem_cons hj]
                simp
              clear hm h hk1 hk2 hk3
              generalize fs.toList = l at h2 hall
              induction h2 with
              | nil => exact ⟨[], .nil⟩
              | cons h1 t ih2 =>
                rename_i f y l' r'
                obtain ⟨parts, hp⟩ := ih2 fun f hf => hall f (List.mem_cons_of_mem _ hf)
                obtain ⟨g1, g2⟩ := hall f (List.mem_cons_self ..)
                obtain ⟨avs, k1, k2⟩ := ih _ _ _ g1 h1
                exact ⟨avs :: parts, .cons ⟨⟨by rw [k2.1]; simp; omega, k1⟩, k2⟩ hp⟩
            obtain ⟨parts, hp⟩ := h3
            refine ⟨parts.flatten, by unfold Fit; rw [hu]; exact ⟨parts, rfl, forall2_imp (fun _ _ h => h.1) hp⟩, ?_⟩
            have h4 := match_flatten hp
            rw [chunks_struct cs fs.toList 0 (fun j f hj => by simpa using hk3 j f hj)] at h4
            rw [← hk2, ← hlen] at h4
            simpa using h4
        · cases h
      case array m e =>
        obtain ⟨he, hsz⟩ := kid_array hl ht hu
        unfold DataW.trod at h
        rw [hu] at h
        dsimp only at h
        split at h
        · rename_i hlen
          cases hm : ((List.range m).mapM fun i => DataW.trod enc P w 0 (fun _ => true) true n e ((cs.drop (i * P.cellsOf e)).take (P.cellsOf e))) with
          | none => rw [hm] at h; simp at h
          | some xs =>
            have h2 := mapM_some hm
            have h3 : ∃ parts : List (List AV), F2 (fun (i : Nat) p => (p.length = P.cellsOf e ∧ Fit P n e p) ∧ Match w p ((cs.drop (i * P.cellsOf e)).take (P.cellsOf e))) (List.range m) parts := by
              have hall : ∀ i ∈ List.range m, (i + 1) * P.cellsOf e ≤ cs.length := fun i hi => by
                rw [hlen, hsz]
                exact Nat.mul_le_mul_right _ (by have := List.mem_range.1 hi; omega)
              clear hm h hsz
              generalize List.range m = l at h2 hall
              induction h2 with
              | nil => exact ⟨[], .nil⟩
              | cons h1 t ih2 =>
                rename_i i y l' r'
                obtain ⟨parts, hp⟩ := ih2 fun f hf => hall f (List.mem_cons_of_mem _ hf)
                have g2 := hall i (List.mem_cons_self ..)
                obtain ⟨avs, k1, k2⟩ := ih _ _ _ he h1
                rw [Nat.succ_mul] at g2
                exact ⟨avs :: parts, .cons ⟨⟨by rw [k2.1]; simp; omega, k1⟩, k2⟩ hp⟩
            obtain ⟨parts, hp⟩ := h3
            refine ⟨parts.flatten, by unfold Fit; rw [hu]; exact ⟨parts, rfl, by have := forall2_len hp; simpa using this.symm, forall2_right (fun _ _ h => h.1) hp⟩, ?_⟩
            have h4 := match_flatten (g := fun i => (cs.drop (i * P.cellsOf e)).take (P.cellsOf e)) hp
            rw [chunks_array, ← hsz, ← hlen] at h4
            simpa using h4
        · cases h

end Go.AM

