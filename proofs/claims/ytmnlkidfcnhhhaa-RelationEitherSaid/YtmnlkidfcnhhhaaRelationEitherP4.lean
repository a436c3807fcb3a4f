/- Lemmas and contracts, part 4: an abstract machine over the model, and the functions that the statement reaches. -/
import Derived.Test.YtmnlkidfcnhhhaaRelationEitherP3
set_option linter.unusedVariables false
set_option linter.unusedSimpArgs false
namespace Go.Proofs.R
open Go.AM Go
set_option maxRecDepth 100000
set_option maxHeartbeats 1000000
theorem eqpairs_r (a b : List (Int × Int)) (hla : a.length ≤ 9223372036854775807) : Reads Try.prog 17 false [.rsl 2 (a.map pairV), .rsl 2 (b.map pairV)] (.bool (decide (a = b))) := by
  refine Reads.body (rs := [.tmp 4]) Try.func17 rfl Try.ntmps17 rfl (by simp) ?_
  generalize hQr : retQ _ _ _ = Qr
  refine AW.seq fun K1 hK1 => ?_
  -- region 0
  refine AW.regionK 0 (fun _ => none) [0, 1] [] ?_
  simp only [go_sem, reduceIte, reduceCtorEq, Nat.reduceAdd, Nat.reduceMul, Nat.reduceEqDiff, Nat.reduceLT, Nat.reduceLeDiff, Nat.reduceSub, Nat.reducePow, Nat.reduceBEq, Int.reduceToNat, List.reduceReplicate]
  repeat with_reducible refine cj ?_ ?_
  all_goals try first | omega
  refine hK1 _ _ _ ?_; clear hK1
  refine AW.seq fun K2 hK2 => ?_
  refine AW.seq fun K3 hK3 => ?_
  -- region 1
  refine AW.regionK 0 (fun _ => none) [0, 1, 10] [] ?_
  simp only [go_sem, reduceIte, reduceCtorEq, Nat.reduceAdd, Nat.reduceMul, Nat.reduceEqDiff, Nat.reduceLT, Nat.reduceLeDiff, Nat.reduceSub, Nat.reducePow, Nat.reduceBEq, Int.reduceToNat, List.reduceReplicate]
  repeat with_reducible refine cj ?_ ?_
  all_goals try first | omega
  refine hK3 _ _ _ ?_; clear hK3
  -- cond 1
  refine AW.cond rfl (by simp only [go_sem, reduceIte, reduceCtorEq, Nat.reduceAdd, Nat.reduceMul, Nat.reduceEqDiff, Nat.reduceLT, Nat.reduceLeDiff, Nat.reduceSub, Nat.reducePow, Nat.reduceBEq, Int.reduceToNat, List.reduceReplicate]) ?_ ?_
  · intro hb
    try simp only [hB, decide_eq_true_eq, decide_eq_false_iff_not] at hb
    rw [← Ne, Ne, Int.natCast_inj] at hb
    refine AW.seq fun K4 hK4 => ?_
    -- region 2
    refine AW.regionK 0 (fun _ => none) [4] [] ?_
    simp only [go_sem, reduceIte, reduceCtorEq, Nat.reduceAdd, Nat.reduceMul, Nat.reduceEqDiff, Nat.reduceLT, Nat.reduceLeDiff, Nat.reduceSub, Nat.reducePow, Nat.reduceBEq, Int.reduceToNat, List.reduceReplicate]
    repeat with_reducible refine cj ?_ ?_
    all_goals try first | omega
    refine hK4 _ _ _ ?_; clear hK4
    refine AW.ret ?_
    rw [← hQr]
    simp only [go_sem, reduceIte, reduceCtorEq, Nat.reduceAdd, Nat.reduceMul, Nat.reduceEqDiff, Nat.reduceLT, Nat.reduceLeDiff, Nat.reduceSub, Nat.reducePow, Nat.reduceBEq, Int.reduceToNat, List.reduceReplicate]
    exact Wk.of_eq (by rw [decide_eq_false]; rintro rfl; exact hb rfl)
  · intro hb
    try simp only [hB, decide_eq_true_eq, decide_eq_false_iff_not] at hb
    have hlen : a.length = b.length := by omega
    refine AW.skip ?_
    refine hK2 _ _ _ ?_; clear hK2
    refine AW.seq fun K5 hK5 => ?_
    refine AW.seq fun K6 hK6 => ?_
    -- region 3
    refine AW.regionK 0 (fun _ => none) [0, 1, 12, 13] [] ?_
    simp only [go_sem, reduceIte, reduceCtorEq, Nat.reduceAdd, Nat.reduceMul, Nat.reduceEqDiff, Nat.reduceLT, Nat.reduceLeDiff, Nat.reduceSub, Nat.reducePow, Nat.reduceBEq, Int.reduceToNat, List.reduceReplicate]
    repeat with_reducible refine cj ?_ ?_
    all_goals try first | omega
    refine hK6 _ _ _ ?_; clear hK6
    refine AW.block ?_
    -- loop 1
    refine AW.loopE (fun mm ee ss kk => ∃ (j : Nat), a.length - j = mm ∧ ee = [(0, .rsl 2 (a.map pairV)), (1, .rsl 2 (b.map pairV)), (12, .int .i64 a.length), (13, .int .i64 (j : Nat))] ∧ ss = [] ∧ (j ≤ a.length ∧ a.take j = b.take j)) ?_ ?_
    · refine ⟨_, 0, rfl, ?henv, ?hstore, ?hst⟩
      case henv =>
        repeat' (first | rfl | refine env_cons ?_ ?_ | refine st_cons ?_ ?_ ?_ ?_ | refine int_eq ?_ | refine bool_eq ?_ | refine rsl_eq ?_ | refine osl_eq ?_ | refine sl_eq ?_ ?_ ?_ | refine ptr_eq ?_ ?_ ?_ | refine agg_eq ?_ | refine es_cons ?_ ?_ | refine row_cons ?_ ?_)
        all_goals (first | (simp; done) | omega | (simp; omega))
      case hstore =>
        repeat' (first | rfl | refine env_cons ?_ ?_ | refine st_cons ?_ ?_ ?_ ?_ | refine int_eq ?_ | refine bool_eq ?_ | refine rsl_eq ?_ | refine osl_eq ?_ | refine sl_eq ?_ ?_ ?_ | refine ptr_eq ?_ ?_ ?_ | refine agg_eq ?_ | refine es_cons ?_ ?_ | refine row_cons ?_ ?_)
        all_goals (first | (simp; done) | omega | (simp; omega))
      case hst =>
        first | trivial | omega | (simp; done) | (simp; omega)
    rintro mm ee ss kk ⟨j, rfl, rfl, rfl, hI⟩
    generalize hQl1 : thenQ _ _ = Ql1
    obtain ⟨hj, hall⟩ := hI
    refine AW.seq fun K7 hK7 => ?_
    -- region 4
    refine AW.regionK 0 (fun _ => none) [0, 1, 12, 13, 14] [] ?_
    simp only [go_sem, reduceIte, reduceCtorEq, Nat.reduceAdd, Nat.reduceMul, Nat.reduceEqDiff, Nat.reduceLT, Nat.reduceLeDiff, Nat.reduceSub, Nat.reducePow, Nat.reduceBEq, Int.reduceToNat, List.reduceReplicate]
    repeat with_reducible refine cj ?_ ?_
    all_goals try first | omega
    refine hK7 _ _ _ ?_; clear hK7
    refine AW.seq fun K8 hK8 => ?_
    -- cond 2
    refine AW.cond rfl (by simp only [go_sem, reduceIte, reduceCtorEq, Nat.reduceAdd, Nat.reduceMul, Nat.reduceEqDiff, Nat.reduceLT, Nat.reduceLeDiff, Nat.reduceSub, Nat.reducePow, Nat.reduceBEq, Int.reduceToNat, List.reduceReplicate]) ?_ ?_
    · intro hb
      try simp only [hB, decide_eq_true_eq, decide_eq_false_iff_not] at hb
      obtain ⟨x, hx⟩ := getI (l := a) (j := j) (by omega)
      obtain ⟨y, hy⟩ := getI (l := b) (j := j) (by omega)
      have hgx := getV (f := pairV) hx
      have hgy := getV (f := pairV) hy
      refine AW.skip ?_
      refine hK8 _ _ _ ?_; clear hK8
      refine AW.seq fun K9 hK9 => ?_
      refine AW.block ?_
      refine AW.seq fun K10 hK10 => ?_
      -- region 5
      refine AW.regionK 0 (fun _ => none) [0, 1, 5, 12, 13] [] ?_
      simp only [go_sem, reduceIte, reduceCtorEq, Nat.reduceAdd, Nat.reduceMul, Nat.reduceEqDiff, Nat.reduceLT, Nat.reduceLeDiff, Nat.reduceSub, Nat.reducePow, Nat.reduceBEq, Int.reduceToNat, List.reduceReplicate]
      repeat with_reducible refine cj ?_ ?_
      all_goals try first | omega
      refine hK10 _ _ _ ?_; clear hK10
      refine AW.seq fun K11 hK11 => ?_
      -- region 6
      refine AW.regionD mixed 0 (fun _ => none) [0, 1, 12, 13, 24] [] ?_
      simp only [go_sem, reduceIte, reduceCtorEq, Nat.reduceAdd, Nat.reduceMul, Nat.reduceEqDiff, Nat.reduceLT, Nat.reduceLeDiff, Nat.reduceSub, Nat.reducePow, Nat.reduceBEq, Int.reduceToNat, List.reduceReplicate, hgx, hgy, pairV]
      repeat with_reducible refine cj ?_ ?_
      all_goals try first | omega | exact chk (by kernel_rfl)
      refine hK11 _ _ _ ?_; clear hK11
      -- cond 3
      refine AW.cond rfl (by simp only [go_sem, reduceIte, reduceCtorEq, Nat.reduceAdd, Nat.reduceMul, Nat.reduceEqDiff, Nat.reduceLT, Nat.reduceLeDiff, Nat.reduceSub, Nat.reducePow, Nat.reduceBEq, Int.reduceToNat, List.reduceReplicate]) ?_ ?_
      · intro hb
        try simp only [hB, decide_eq_true_eq, decide_eq_false_iff_not] at hb
        refine AW.seq fun K12 hK12 => ?_
        -- region 7
        refine AW.regionK 0 (fun _ => none) [4] [] ?_
        simp only [go_sem, reduceIte, reduceCtorEq, Nat.reduceAdd, Nat.reduceMul, Nat.reduceEqDiff, Nat.reduceLT, Nat.reduceLeDiff, Nat.reduceSub, Nat.reducePow, Nat.reduceBEq, Int.reduceToNat, List.reduceReplicate]
        repeat with_reducible refine cj ?_ ?_
        all_goals try first | omega
        refine hK12 _ _ _ ?_; clear hK12
        refine AW.ret ?_
        rw [← hQl1]
        rw [← hQr]
        simp only [go_sem, reduceIte, reduceCtorEq, Nat.reduceAdd, Nat.reduceMul, Nat.reduceEqDiff, Nat.reduceLT, Nat.reduceLeDiff, Nat.reduceSub, Nat.reducePow, Nat.reduceBEq, Int.reduceToNat, List.reduceReplicate]
        have hne : x ≠ y := by rintro rfl; simp at hb
        exact Wk.of_eq (by rw [decide_eq_false (eqB_ne hx hy hne)])
      · intro hb
        try simp only [hB, decide_eq_true_eq, decide_eq_false_iff_not] at hb
        have hxy : x = y := by obtain ⟨x1, x2⟩ := x; obtain ⟨y1, y2⟩ := y; simp at hb ⊢; omega
        subst hxy
        refine AW.skip ?_
        refine hK9 _ _ _ ?_; clear hK9
        -- region 8
        refine AW.regionK 0 (fun _ => none) [0, 1, 12, 13] [] ?_
        simp only [go_sem, reduceIte, reduceCtorEq, Nat.reduceAdd, Nat.reduceMul, Nat.reduceEqDiff, Nat.reduceLT, Nat.reduceLeDiff, Nat.reduceSub, Nat.reducePow, Nat.reduceBEq, Int.reduceToNat, List.reduceReplicate]
        repeat with_reducible refine cj ?_ ?_
        all_goals try first | omega
        rw [← hQl1]
        change Exists _
        refine ⟨_, ?hm, j + 1, rfl, ?henv, ?hstore, ?hst⟩
        case henv =>
          repeat' (first | rfl | refine env_cons ?_ ?_ | refine st_cons ?_ ?_ ?_ ?_ | refine int_eq ?_ | refine bool_eq ?_ | refine rsl_eq ?_ | refine osl_eq ?_ | refine sl_eq ?_ ?_ ?_ | refine ptr_eq ?_ ?_ ?_ | refine agg_eq ?_ | refine es_cons ?_ ?_ | refine row_cons ?_ ?_)
          all_goals (first | (simp; done) | omega | (simp; omega))
        case hstore =>
          repeat' (first | rfl | refine env_cons ?_ ?_ | refine st_cons ?_ ?_ ?_ ?_ | refine int_eq ?_ | refine bool_eq ?_ | refine rsl_eq ?_ | refine osl_eq ?_ | refine sl_eq ?_ ?_ ?_ | refine ptr_eq ?_ ?_ ?_ | refine agg_eq ?_ | refine es_cons ?_ ?_ | refine row_cons ?_ ?_)
          all_goals (first | (simp; done) | omega | (simp; omega))
        case hst =>
          exact ⟨by omega, take_succ_eqA hx hy hall⟩
        case hm => omega
    · intro hb
      try simp only [hB, decide_eq_true_eq, decide_eq_false_iff_not] at hb
      refine AW.keep [] [] ?_
      try simp only [go_sem, reduceIte, reduceCtorEq, Nat.reduceAdd, Nat.reduceMul, Nat.reduceEqDiff, Nat.reduceLT, Nat.reduceLeDiff, Nat.reduceSub, Nat.reducePow, Nat.reduceBEq, Int.reduceToNat, List.reduceReplicate]
      refine AW.exit ?_
      rw [← hQl1]
      refine hK5 _ _ _ ?_; clear hK5
      refine AW.seq fun K13 hK13 => ?_
      -- region 9
      refine AW.regionK 0 (fun _ => none) [4] [] ?_
      simp only [go_sem, reduceIte, reduceCtorEq, Nat.reduceAdd, Nat.reduceMul, Nat.reduceEqDiff, Nat.reduceLT, Nat.reduceLeDiff, Nat.reduceSub, Nat.reducePow, Nat.reduceBEq, Int.reduceToNat, List.reduceReplicate]
      repeat with_reducible refine cj ?_ ?_
      all_goals try first | omega
      refine hK13 _ _ _ ?_; clear hK13
      refine AW.ret ?_
      rw [← hQr]
      simp only [go_sem, reduceIte, reduceCtorEq, Nat.reduceAdd, Nat.reduceMul, Nat.reduceEqDiff, Nat.reduceLT, Nat.reduceLeDiff, Nat.reduceSub, Nat.reducePow, Nat.reduceBEq, Int.reduceToNat, List.reduceReplicate]
      exact Wk.of_eq (by rw [List.take_of_length_le (by omega), List.take_of_length_le (by omega)] at hall; rw [decide_eq_true hall])
theorem eqi_r (a b : List Int) (hla : a.length ≤ 9223372036854775807) : Reads Try.prog 33 false [.rsl 1 (ints a), .rsl 1 (ints b)] (.bool (a == b)) := by
  refine Reads.body (rs := [.tmp 4]) Try.func33 rfl Try.ntmps33 rfl (by simp) ?_
  generalize hQr : retQ _ _ _ = Qr
  refine AW.seq fun K1 hK1 => ?_
  -- region 0
  refine AW.regionK 0 (fun _ => none) [0, 1] [] ?_
  simp only [go_sem, reduceIte, reduceCtorEq, Nat.reduceAdd, Nat.reduceMul, Nat.reduceEqDiff, Nat.reduceLT, Nat.reduceLeDiff, Nat.reduceSub, Nat.reducePow, Nat.reduceBEq, Int.reduceToNat, List.reduceReplicate]
  repeat with_reducible refine cj ?_ ?_
  all_goals try first | omega
  refine hK1 _ _ _ ?_; clear hK1
  refine AW.seq fun K2 hK2 => ?_
  refine AW.seq fun K3 hK3 => ?_
  -- region 1
  refine AW.regionK 0 (fun _ => none) [0, 1, 10] [] ?_
  simp only [go_sem, reduceIte, reduceCtorEq, Nat.reduceAdd, Nat.reduceMul, Nat.reduceEqDiff, Nat.reduceLT, Nat.reduceLeDiff, Nat.reduceSub, Nat.reducePow, Nat.reduceBEq, Int.reduceToNat, List.reduceReplicate]
  repeat with_reducible refine cj ?_ ?_
  all_goals try first | omega
  refine hK3 _ _ _ ?_; clear hK3
  -- cond 1
  refine AW.cond rfl (by simp only [go_sem, reduceIte, reduceCtorEq, Nat.reduceAdd, Nat.reduceMul, Nat.reduceEqDiff, Nat.reduceLT, Nat.reduceLeDiff, Nat.reduceSub, Nat.reducePow, Nat.reduceBEq, Int.reduceToNat, List.reduceReplicate]) ?_ ?_
  · intro hb
    try simp only [hB, decide_eq_true_eq, decide_eq_false_iff_not] at hb
    rw [← Ne, Ne, Int.natCast_inj] at hb
    refine AW.seq fun K4 hK4 => ?_
    -- region 2
    refine AW.regionK 0 (fun _ => none) [4] [] ?_
    simp only [go_sem, reduceIte, reduceCtorEq, Nat.reduceAdd, Nat.reduceMul, Nat.reduceEqDiff, Nat.reduceLT, Nat.reduceLeDiff, Nat.reduceSub, Nat.reducePow, Nat.reduceBEq, Int.reduceToNat, List.reduceReplicate]
    repeat with_reducible refine cj ?_ ?_
    all_goals try first | omega
    refine hK4 _ _ _ ?_; clear hK4
    refine AW.ret ?_
    rw [← hQr]
    simp only [go_sem, reduceIte, reduceCtorEq, Nat.reduceAdd, Nat.reduceMul, Nat.reduceEqDiff, Nat.reduceLT, Nat.reduceLeDiff, Nat.reduceSub, Nat.reducePow, Nat.reduceBEq, Int.reduceToNat, List.reduceReplicate]
    exact Wk.of_eq (by rw [eqL_len hb])
  · intro hb
    try simp only [hB, decide_eq_true_eq, decide_eq_false_iff_not] at hb
    have hlen : a.length = b.length := by omega
    refine AW.skip ?_
    refine hK2 _ _ _ ?_; clear hK2
    refine AW.seq fun K5 hK5 => ?_
    refine AW.seq fun K6 hK6 => ?_
    -- region 3
    refine AW.regionK 0 (fun _ => none) [0, 1, 12, 13] [] ?_
    simp only [go_sem, reduceIte, reduceCtorEq, Nat.reduceAdd, Nat.reduceMul, Nat.reduceEqDiff, Nat.reduceLT, Nat.reduceLeDiff, Nat.reduceSub, Nat.reducePow, Nat.reduceBEq, Int.reduceToNat, List.reduceReplicate]
    repeat with_reducible refine cj ?_ ?_
    all_goals try first | omega
    refine hK6 _ _ _ ?_; clear hK6
    refine AW.block ?_
    -- loop 1
    refine AW.loopE (fun mm ee ss kk => ∃ (j : Nat), a.length - j = mm ∧ ee = [(0, .rsl 1 (ints a)), (1, .rsl 1 (ints b)), (12, .int .i64 a.length), (13, .int .i64 (j : Nat))] ∧ ss = [] ∧ (j ≤ a.length ∧ a.take j = b.take j)) ?_ ?_
    · refine ⟨_, 0, rfl, ?henv, ?hstore, ?hst⟩
      case henv =>
        repeat' (first | rfl | refine env_cons ?_ ?_ | refine st_cons ?_ ?_ ?_ ?_ | refine int_eq ?_ | refine bool_eq ?_ | refine rsl_eq ?_ | refine osl_eq ?_ | refine sl_eq ?_ ?_ ?_ | refine ptr_eq ?_ ?_ ?_ | refine agg_eq ?_ | refine es_cons ?_ ?_ | refine row_cons ?_ ?_)
        all_goals (first | (simp; done) | omega | (simp; omega))
      case hstore =>
        repeat' (first | rfl | refine env_cons ?_ ?_ | refine st_cons ?_ ?_ ?_ ?_ | refine int_eq ?_ | refine bool_eq ?_ | refine rsl_eq ?_ | refine osl_eq ?_ | refine sl_eq ?_ ?_ ?_ | refine ptr_eq ?_ ?_ ?_ | refine agg_eq ?_ | refine es_cons ?_ ?_ | refine row_cons ?_ ?_)
        all_goals (first | (simp; done) | omega | (simp; omega))
      case hst =>
        first | trivial | omega | (simp; done) | (simp; omega)
    rintro mm ee ss kk ⟨j, rfl, rfl, rfl, hI⟩
    generalize hQl1 : thenQ _ _ = Ql1
    obtain ⟨hj, hall⟩ := hI
    refine AW.seq fun K7 hK7 => ?_
    -- region 4
    refine AW.regionK 0 (fun _ => none) [0, 1, 12, 13, 14] [] ?_
    simp only [go_sem, reduceIte, reduceCtorEq, Nat.reduceAdd, Nat.reduceMul, Nat.reduceEqDiff, Nat.reduceLT, Nat.reduceLeDiff, Nat.reduceSub, Nat.reducePow, Nat.reduceBEq, Int.reduceToNat, List.reduceReplicate]
    repeat with_reducible refine cj ?_ ?_
    all_goals try first | omega
    refine hK7 _ _ _ ?_; clear hK7
    refine AW.seq fun K8 hK8 => ?_
    -- cond 2
    refine AW.cond rfl (by simp only [go_sem, reduceIte, reduceCtorEq, Nat.reduceAdd, Nat.reduceMul, Nat.reduceEqDiff, Nat.reduceLT, Nat.reduceLeDiff, Nat.reduceSub, Nat.reducePow, Nat.reduceBEq, Int.reduceToNat, List.reduceReplicate]) ?_ ?_
    · intro hb
      try simp only [hB, decide_eq_true_eq, decide_eq_false_iff_not] at hb
      obtain ⟨x, hx⟩ := getI (l := a) (j := j) (by omega)
      obtain ⟨y, hy⟩ := getI (l := b) (j := j) (by omega)
      have hgx := ints_get hx
      have hgy := ints_get hy
      refine AW.skip ?_
      refine hK8 _ _ _ ?_; clear hK8
      refine AW.seq fun K9 hK9 => ?_
      refine AW.block ?_
      refine AW.seq fun K10 hK10 => ?_
      -- region 5
      refine AW.regionK 0 (fun _ => none) [0, 1, 5, 12, 13] [] ?_
      simp only [go_sem, reduceIte, reduceCtorEq, Nat.reduceAdd, Nat.reduceMul, Nat.reduceEqDiff, Nat.reduceLT, Nat.reduceLeDiff, Nat.reduceSub, Nat.reducePow, Nat.reduceBEq, Int.reduceToNat, List.reduceReplicate]
      repeat with_reducible refine cj ?_ ?_
      all_goals try first | omega
      refine hK10 _ _ _ ?_; clear hK10
      refine AW.seq fun K11 hK11 => ?_
      -- region 6
      refine AW.regionD mixed 0 (fun _ => none) [0, 1, 12, 13, 24] [] ?_
      simp only [go_sem, reduceIte, reduceCtorEq, Nat.reduceAdd, Nat.reduceMul, Nat.reduceEqDiff, Nat.reduceLT, Nat.reduceLeDiff, Nat.reduceSub, Nat.reducePow, Nat.reduceBEq, Int.reduceToNat, List.reduceReplicate, hgx, hgy]
      repeat with_reducible refine cj ?_ ?_
      all_goals try first | omega | exact chk (by kernel_rfl)
      refine hK11 _ _ _ ?_; clear hK11
      -- cond 3
      refine AW.cond rfl (by simp only [go_sem, reduceIte, reduceCtorEq, Nat.reduceAdd, Nat.reduceMul, Nat.reduceEqDiff, Nat.reduceLT, Nat.reduceLeDiff, Nat.reduceSub, Nat.reducePow, Nat.reduceBEq, Int.reduceToNat, List.reduceReplicate]) ?_ ?_
      · intro hb
        try simp only [hB, decide_eq_true_eq, decide_eq_false_iff_not] at hb
        refine AW.seq fun K12 hK12 => ?_
        -- region 7
        refine AW.regionK 0 (fun _ => none) [4] [] ?_
        simp only [go_sem, reduceIte, reduceCtorEq, Nat.reduceAdd, Nat.reduceMul, Nat.reduceEqDiff, Nat.reduceLT, Nat.reduceLeDiff, Nat.reduceSub, Nat.reducePow, Nat.reduceBEq, Int.reduceToNat, List.reduceReplicate]
        repeat with_reducible refine cj ?_ ?_
        all_goals try first | omega
        refine hK12 _ _ _ ?_; clear hK12
        refine AW.ret ?_
        rw [← hQl1]
        rw [← hQr]
        simp only [go_sem, reduceIte, reduceCtorEq, Nat.reduceAdd, Nat.reduceMul, Nat.reduceEqDiff, Nat.reduceLT, Nat.reduceLeDiff, Nat.reduceSub, Nat.reducePow, Nat.reduceBEq, Int.reduceToNat, List.reduceReplicate]
        exact Wk.of_eq (by rw [eqL_ne hx hy hb])
      · intro hb
        try simp only [hB, decide_eq_true_eq, decide_eq_false_iff_not] at hb
        have hxy : x = y := by omega
        subst hxy
        refine AW.skip ?_
        refine hK9 _ _ _ ?_; clear hK9
        -- region 8
        refine AW.regionK 0 (fun _ => none) [0, 1, 12, 13] [] ?_
        simp only [go_sem, reduceIte, reduceCtorEq, Nat.reduceAdd, Nat.reduceMul, Nat.reduceEqDiff, Nat.reduceLT, Nat.reduceLeDiff, Nat.reduceSub, Nat.reducePow, Nat.reduceBEq, Int.reduceToNat, List.reduceReplicate]
        repeat with_reducible refine cj ?_ ?_
        all_goals try first | omega
        rw [← hQl1]
        change Exists _
        refine ⟨_, ?hm, j + 1, rfl, ?henv, ?hstore, ?hst⟩
        case henv =>
          repeat' (first | rfl | refine env_cons ?_ ?_ | refine st_cons ?_ ?_ ?_ ?_ | refine int_eq ?_ | refine bool_eq ?_ | refine rsl_eq ?_ | refine osl_eq ?_ | refine sl_eq ?_ ?_ ?_ | refine ptr_eq ?_ ?_ ?_ | refine agg_eq ?_ | refine es_cons ?_ ?_ | refine row_cons ?_ ?_)
          all_goals (first | (simp; done) | omega | (simp; omega))
        case hstore =>
          repeat' (first | rfl | refine env_cons ?_ ?_ | refine st_cons ?_ ?_ ?_ ?_ | refine int_eq ?_ | refine bool_eq ?_ | refine rsl_eq ?_ | refine osl_eq ?_ | refine sl_eq ?_ ?_ ?_ | refine ptr_eq ?_ ?_ ?_ | refine agg_eq ?_ | refine es_cons ?_ ?_ | refine row_cons ?_ ?_)
          all_goals (first | (simp; done) | omega | (simp; omega))
        case hst =>
          exact ⟨by omega, take_succ_eq hx hy hall⟩
        case hm => omega
    · intro hb
      try simp only [hB, decide_eq_true_eq, decide_eq_false_iff_not] at hb
      refine AW.keep [] [] ?_
      try simp only [go_sem, reduceIte, reduceCtorEq, Nat.reduceAdd, Nat.reduceMul, Nat.reduceEqDiff, Nat.reduceLT, Nat.reduceLeDiff, Nat.reduceSub, Nat.reducePow, Nat.reduceBEq, Int.reduceToNat, List.reduceReplicate]
      refine AW.exit ?_
      rw [← hQl1]
      refine hK5 _ _ _ ?_; clear hK5
      refine AW.seq fun K13 hK13 => ?_
      -- region 9
      refine AW.regionK 0 (fun _ => none) [4] [] ?_
      simp only [go_sem, reduceIte, reduceCtorEq, Nat.reduceAdd, Nat.reduceMul, Nat.reduceEqDiff, Nat.reduceLT, Nat.reduceLeDiff, Nat.reduceSub, Nat.reducePow, Nat.reduceBEq, Int.reduceToNat, List.reduceReplicate]
      repeat with_reducible refine cj ?_ ?_
      all_goals try first | omega
      refine hK13 _ _ _ ?_; clear hK13
      refine AW.ret ?_
      rw [← hQr]
      simp only [go_sem, reduceIte, reduceCtorEq, Nat.reduceAdd, Nat.reduceMul, Nat.reduceEqDiff, Nat.reduceLT, Nat.reduceLeDiff, Nat.reduceSub, Nat.reducePow, Nat.reduceBEq, Int.reduceToNat, List.reduceReplicate]
      exact Wk.of_eq (by rw [List.take_of_length_le (by omega), List.take_of_length_le (by omega)] at hall; rw [hall]; simp)
theorem wrap_small {z : Int} (h0 : 0 ≤ z) (h1 : z < 18446744073709551616) : IntKind.u64.wrap z = z := by simp [IntKind.wrap, IntKind.signed, IntKind.bits]; omega
theorem mask32 {n : Nat} (h : n < 4294967296) : bAnd .u64 (n : Int) 4294967295 = n := by
  rw [show (4294967295 : Int) = ((4294967295 : Nat) : Int) from rfl, bAnd_nat (by omega) (by decide)]
  have := Nat.and_two_pow_sub_one_eq_mod n 32
  simp only [Nat.reducePow, Nat.reduceSub] at this
  rw [this, Nat.mod_eq_of_lt h]
theorem shr32 {n : Nat} (h : n < 4294967296) : bShr .u64 (n : Int) 32 = 0 := by
  rw [show (32 : Int) = ((32 : Nat) : Int) from rfl, bShr_nat (by decide), Nat.shiftRight_eq_div_pow, Nat.div_eq_of_lt (by simpa using h)]; rfl
theorem mul64_r (n : Nat) (hn : n < 4294967296) : Reads Try.prog 66 false [.int .u64 1, .int .u64 n] (.tup [.int .u64 0, .int .u64 n]) := by
  have h1 : bAnd .u64 1 4294967295 = 1 := mask32 (n := 1) (by decide)
  have h2 : bShr .u64 1 32 = 0 := shr32 (n := 1) (by decide)
  have h3 := mask32 hn
  have h4 := shr32 hn
  have h5 : bAnd .u64 0 4294967295 = 0 := mask32 (n := 0) (by decide)
  have h6 : bShr .u64 0 32 = 0 := shr32 (n := 0) (by decide)
  have h7 : IntKind.u64.wrap (n : Int) = n := wrap_small (by omega) (by omega)
  have h8 : IntKind.u64.wrap 0 = 0 := rfl
  refine Reads.body (rs := [.tmp 4, .tmp 5]) Try.func66 rfl Try.ntmps66 rfl (by simp) ?_
  generalize hQr : retQ _ _ _ = Qr
  refine AW.seq fun K1 hK1 => ?_
  -- region 0
  refine AW.regionK 0 (fun _ => none) [0, 1] [] ?_
  simp only [go_sem, reduceIte, reduceCtorEq, Nat.reduceAdd, Nat.reduceMul, Nat.reduceEqDiff, Nat.reduceLT, Nat.reduceLeDiff, Nat.reduceSub, Nat.reducePow, Nat.reduceBEq, Int.reduceToNat, List.reduceReplicate, h1, h2, h3, h4, h5, h6, h7, h8, Int.one_mul, Int.zero_mul, Int.mul_zero, Int.add_zero]
  repeat with_reducible refine cj ?_ ?_
  all_goals try first | omega
  refine hK1 _ _ _ ?_; clear hK1
  refine AW.seq fun K2 hK2 => ?_
  -- region 1
  refine AW.regionK 0 (fun _ => none) [0, 1, 6] [] ?_
  simp only [go_sem, reduceIte, reduceCtorEq, Nat.reduceAdd, Nat.reduceMul, Nat.reduceEqDiff, Nat.reduceLT, Nat.reduceLeDiff, Nat.reduceSub, Nat.reducePow, Nat.reduceBEq, Int.reduceToNat, List.reduceReplicate, h1, h2, h3, h4, h5, h6, h7, h8, Int.one_mul, Int.zero_mul, Int.mul_zero, Int.add_zero]
  repeat with_reducible refine cj ?_ ?_
  all_goals try first | omega
  refine hK2 _ _ _ ?_; clear hK2
  refine AW.seq fun K3 hK3 => ?_
  -- region 2
  refine AW.regionK 0 (fun _ => none) [0, 1, 6, 7] [] ?_
  simp only [go_sem, reduceIte, reduceCtorEq, Nat.reduceAdd, Nat.reduceMul, Nat.reduceEqDiff, Nat.reduceLT, Nat.reduceLeDiff, Nat.reduceSub, Nat.reducePow, Nat.reduceBEq, Int.reduceToNat, List.reduceReplicate, h1, h2, h3, h4, h5, h6, h7, h8, Int.one_mul, Int.zero_mul, Int.mul_zero, Int.add_zero]
  repeat with_reducible refine cj ?_ ?_
  all_goals try first | omega
  refine hK3 _ _ _ ?_; clear hK3
  refine AW.seq fun K4 hK4 => ?_
  -- region 3
  refine AW.regionK 0 (fun _ => none) [0, 1, 6, 7, 8] [] ?_
  simp only [go_sem, reduceIte, reduceCtorEq, Nat.reduceAdd, Nat.reduceMul, Nat.reduceEqDiff, Nat.reduceLT, Nat.reduceLeDiff, Nat.reduceSub, Nat.reducePow, Nat.reduceBEq, Int.reduceToNat, List.reduceReplicate, h1, h2, h3, h4, h5, h6, h7, h8, Int.one_mul, Int.zero_mul, Int.mul_zero, Int.add_zero]
  repeat with_reducible refine cj ?_ ?_
  all_goals try first | omega
  refine hK4 _ _ _ ?_; clear hK4
  refine AW.seq fun K5 hK5 => ?_
  -- region 4
  refine AW.regionK 0 (fun _ => none) [0, 1, 6, 7, 8, 9] [] ?_
  simp only [go_sem, reduceIte, reduceCtorEq, Nat.reduceAdd, Nat.reduceMul, Nat.reduceEqDiff, Nat.reduceLT, Nat.reduceLeDiff, Nat.reduceSub, Nat.reducePow, Nat.reduceBEq, Int.reduceToNat, List.reduceReplicate, h1, h2, h3, h4, h5, h6, h7, h8, Int.one_mul, Int.zero_mul, Int.mul_zero, Int.add_zero]
  repeat with_reducible refine cj ?_ ?_
  all_goals try first | omega
  refine hK5 _ _ _ ?_; clear hK5
  refine AW.seq fun K6 hK6 => ?_
  -- region 5
  refine AW.regionK 0 (fun _ => none) [0, 1, 6, 7, 8, 9, 10] [] ?_
  simp only [go_sem, reduceIte, reduceCtorEq, Nat.reduceAdd, Nat.reduceMul, Nat.reduceEqDiff, Nat.reduceLT, Nat.reduceLeDiff, Nat.reduceSub, Nat.reducePow, Nat.reduceBEq, Int.reduceToNat, List.reduceReplicate, h1, h2, h3, h4, h5, h6, h7, h8, Int.one_mul, Int.zero_mul, Int.mul_zero, Int.add_zero]
  repeat with_reducible refine cj ?_ ?_
  all_goals try first | omega
  refine hK6 _ _ _ ?_; clear hK6
  refine AW.seq fun K7 hK7 => ?_
  -- region 6
  refine AW.regionK 0 (fun _ => none) [0, 1, 6, 7, 9, 11] [] ?_
  simp only [go_sem, reduceIte, reduceCtorEq, Nat.reduceAdd, Nat.reduceMul, Nat.reduceEqDiff, Nat.reduceLT, Nat.reduceLeDiff, Nat.reduceSub, Nat.reducePow, Nat.reduceBEq, Int.reduceToNat, List.reduceReplicate, h1, h2, h3, h4, h5, h6, h7, h8, Int.one_mul, Int.zero_mul, Int.mul_zero, Int.add_zero]
  repeat with_reducible refine cj ?_ ?_
  all_goals try first | omega
  refine hK7 _ _ _ ?_; clear hK7
  refine AW.seq fun K8 hK8 => ?_
  -- region 7
  refine AW.regionK 0 (fun _ => none) [0, 1, 6, 7, 9, 11, 12] [] ?_
  simp only [go_sem, reduceIte, reduceCtorEq, Nat.reduceAdd, Nat.reduceMul, Nat.reduceEqDiff, Nat.reduceLT, Nat.reduceLeDiff, Nat.reduceSub, Nat.reducePow, Nat.reduceBEq, Int.reduceToNat, List.reduceReplicate, h1, h2, h3, h4, h5, h6, h7, h8, Int.one_mul, Int.zero_mul, Int.mul_zero, Int.add_zero]
  repeat with_reducible refine cj ?_ ?_
  all_goals try first | omega
  refine hK8 _ _ _ ?_; clear hK8
  refine AW.seq fun K9 hK9 => ?_
  -- region 8
  refine AW.regionK 0 (fun _ => none) [0, 1, 6, 7, 9, 12, 13] [] ?_
  simp only [go_sem, reduceIte, reduceCtorEq, Nat.reduceAdd, Nat.reduceMul, Nat.reduceEqDiff, Nat.reduceLT, Nat.reduceLeDiff, Nat.reduceSub, Nat.reducePow, Nat.reduceBEq, Int.reduceToNat, List.reduceReplicate, h1, h2, h3, h4, h5, h6, h7, h8, Int.one_mul, Int.zero_mul, Int.mul_zero, Int.add_zero]
  repeat with_reducible refine cj ?_ ?_
  all_goals try first | omega
  refine hK9 _ _ _ ?_; clear hK9
  refine AW.seq fun K10 hK10 => ?_
  -- region 9
  refine AW.regionK 0 (fun _ => none) [0, 1, 7, 9, 12, 13] [] ?_
  simp only [go_sem, reduceIte, reduceCtorEq, Nat.reduceAdd, Nat.reduceMul, Nat.reduceEqDiff, Nat.reduceLT, Nat.reduceLeDiff, Nat.reduceSub, Nat.reducePow, Nat.reduceBEq, Int.reduceToNat, List.reduceReplicate, h1, h2, h3, h4, h5, h6, h7, h8, Int.one_mul, Int.zero_mul, Int.mul_zero, Int.add_zero]
  repeat with_reducible refine cj ?_ ?_
  all_goals try first | omega
  refine hK10 _ _ _ ?_; clear hK10
  refine AW.seq fun K11 hK11 => ?_
  -- region 10
  refine AW.regionK 0 (fun _ => none) [0, 1, 4] [] ?_
  simp only [go_sem, reduceIte, reduceCtorEq, Nat.reduceAdd, Nat.reduceMul, Nat.reduceEqDiff, Nat.reduceLT, Nat.reduceLeDiff, Nat.reduceSub, Nat.reducePow, Nat.reduceBEq, Int.reduceToNat, List.reduceReplicate, h1, h2, h3, h4, h5, h6, h7, h8, Int.one_mul, Int.zero_mul, Int.mul_zero, Int.add_zero]
  repeat with_reducible refine cj ?_ ?_
  all_goals try first | omega
  refine hK11 _ _ _ ?_; clear hK11
  refine AW.seq fun K12 hK12 => ?_
  -- region 11
  refine AW.regionK 0 (fun _ => none) [4, 5] [] ?_
  simp only [go_sem, reduceIte, reduceCtorEq, Nat.reduceAdd, Nat.reduceMul, Nat.reduceEqDiff, Nat.reduceLT, Nat.reduceLeDiff, Nat.reduceSub, Nat.reducePow, Nat.reduceBEq, Int.reduceToNat, List.reduceReplicate, h1, h2, h3, h4, h5, h6, h7, h8, Int.one_mul, Int.zero_mul, Int.mul_zero, Int.add_zero]
  repeat with_reducible refine cj ?_ ?_
  all_goals try first | omega
  refine hK12 _ _ _ ?_; clear hK12
  refine AW.ret ?_
  rw [← hQr]
  simp only [go_sem, reduceIte, reduceCtorEq, Nat.reduceAdd, Nat.reduceMul, Nat.reduceEqDiff, Nat.reduceLT, Nat.reduceLeDiff, Nat.reduceSub, Nat.reducePow, Nat.reduceBEq, Int.reduceToNat, List.reduceReplicate, h1, h2, h3, h4, h5, h6, h7, h8, Int.one_mul, Int.zero_mul, Int.mul_zero, Int.add_zero]
  exact Wk.refl _
theorem mul_r (n : Nat) (hn : n < 4294967296) : Reads Try.prog 64 false [.int .u64 1, .int .u64 n] (.tup [.int .u64 0, .int .u64 n]) := by
  have h := mul64_r n hn
  refine Reads.body (rs := [.tmp 4, .tmp 5]) Try.func64 rfl Try.ntmps64 rfl (by simp) ?_
  generalize hQr : retQ _ _ _ = Qr
  refine AW.seq fun K1 hK1 => ?_
  -- region 0
  refine AW.regionK 0 (fun _ => none) [0, 1] [] ?_
  simp only [go_sem, reduceIte, reduceCtorEq, Nat.reduceAdd, Nat.reduceMul, Nat.reduceEqDiff, Nat.reduceLT, Nat.reduceLeDiff, Nat.reduceSub, Nat.reducePow, Nat.reduceBEq, Int.reduceToNat, List.reduceReplicate]
  repeat with_reducible refine cj ?_ ?_
  all_goals try first | omega
  refine hK1 _ _ _ ?_; clear hK1
  refine AW.seq fun K2 hK2 => ?_
  -- cond 1
  refine AW.cond rfl (by simp only [go_sem, reduceIte, reduceCtorEq, Nat.reduceAdd, Nat.reduceMul, Nat.reduceEqDiff, Nat.reduceLT, Nat.reduceLeDiff, Nat.reduceSub, Nat.reducePow, Nat.reduceBEq, Int.reduceToNat, List.reduceReplicate]) ?_ ?_
  · intro hb
    try simp only [hB, decide_eq_true_eq, decide_eq_false_iff_not] at hb
    simp at hb
  · intro hb
    try simp only [hB, decide_eq_true_eq, decide_eq_false_iff_not] at hb
    refine AW.skip ?_
    refine hK2 _ _ _ ?_; clear hK2
    refine AW.seq fun K3 hK3 => ?_
    -- region 3
    refine AW.regionK 0 (fun ii => if ii = 2 then some (.reads false (.tup [.int .u64 0, .int .u64 n])) else none) [8, 9] [] ?_
    simp only [go_sem, reduceIte, reduceCtorEq, Nat.reduceAdd, Nat.reduceMul, Nat.reduceEqDiff, Nat.reduceLT, Nat.reduceLeDiff, Nat.reduceSub, Nat.reducePow, Nat.reduceBEq, Int.reduceToNat, List.reduceReplicate]
    repeat with_reducible refine cj ?_ ?_
    all_goals try first | (exact h) | omega | exact ent (by kernel_rfl)
    refine hK3 _ _ _ ?_; clear hK3
    refine AW.seq fun K4 hK4 => ?_
    -- region 4
    refine AW.regionK 0 (fun _ => none) [4, 5] [] ?_
    simp only [go_sem, reduceIte, reduceCtorEq, Nat.reduceAdd, Nat.reduceMul, Nat.reduceEqDiff, Nat.reduceLT, Nat.reduceLeDiff, Nat.reduceSub, Nat.reducePow, Nat.reduceBEq, Int.reduceToNat, List.reduceReplicate]
    repeat with_reducible refine cj ?_ ?_
    all_goals try first | omega
    refine hK4 _ _ _ ?_; clear hK4
    refine AW.ret ?_
    rw [← hQr]
    simp only [go_sem, reduceIte, reduceCtorEq, Nat.reduceAdd, Nat.reduceMul, Nat.reduceEqDiff, Nat.reduceLT, Nat.reduceLeDiff, Nat.reduceSub, Nat.reducePow, Nat.reduceBEq, Int.reduceToNat, List.reduceReplicate]
    exact Wk.refl _
def repC (a : Int) (n c : Nat) : List Int := List.replicate c a ++ List.replicate (n - c) 0
theorem repC_take (a : Int) {n c : Nat} (h : c ≤ n) : (repC a n c).take c = List.replicate c a := by
  unfold repC; rw [List.take_append_of_le_length (by simp)]; simp
theorem repC_step (a : Int) {n c : Nat} (h : c ≤ n) : ints ((repC a n c).take c) ++ ints (((repC a n c).take c).take (min ((repC a n c).take c).length (n - c))) ++ (ints (repC a n c)).drop (c + min ((repC a n c).take c).length (n - c)) = ints (repC a n (c + min (n - c) c)) := by
  rw [repC_take a h, List.length_replicate, List.take_replicate, ints_drop]
  have e : min (min c (n - c)) c = min (n - c) c := by omega
  have e2 : min c (n - c) = min (n - c) c := by omega
  rw [e, e2]
  generalize hm : min (n - c) c = m
  have hd : (repC a n c).drop (c + m) = List.replicate (n - (c + m)) 0 := by
    unfold repC
    rw [List.drop_append, List.length_replicate, List.drop_of_length_le (by simp), List.drop_replicate, show c + m - c = m by omega, show n - c - m = n - (c + m) by omega]; simp
  rw [hd]
  unfold repC
  simp only [ints, List.map_append, ← List.replicate_append_replicate, List.append_assoc]
theorem repeat_u (a : Int) (n : Nat) (hn : n ≤ 100000) : Upd Try.prog 57 [] [.rsl 1 (ints [a]), .int .i64 n] (fun k => .sl ⟨0, k, none⟩ 0 n none) (fun k => [(0, some ⟨k, k, 1, ints (List.replicate n a)⟩)]) := by
  have hm := mul_r n (by omega)
  have hw := wrap_small (z := (n : Int)) (by omega) (by omega)
  have hw1 : IntKind.u64.wrap 1 = 1 := rfl
  have hw2 : IntKind.i64.wrap (n : Int) = n := by simp [IntKind.wrap, IntKind.signed, IntKind.bits]; omega
  have hl1 : (ints [a]).length = 1 := rfl
  have hz : List.replicate n [AV.int .i64 0] = ints (List.replicate n 0) := by simp [ints]
  refine Upd.of_body (rs := [.tmp 4]) Try.func57 rfl Try.ntmps57 rfl (by simp) ?_
  intro k0 k hk0 hk1
  generalize hQr : retQ _ _ _ = Qr
  refine AW.seq fun K1 hK1 => ?_
  -- region 0
  refine AW.regionK 100 (fun _ => none) [0, 1] [] ?_
  simp only [go_sem, reduceIte, reduceCtorEq, Nat.reduceAdd, Nat.reduceMul, Nat.reduceEqDiff, Nat.reduceLT, Nat.reduceLeDiff, Nat.reduceSub, Nat.reducePow, Nat.reduceBEq, Int.reduceToNat, List.reduceReplicate, hw, hw1, hw2, hl1]
  repeat with_reducible refine cj ?_ ?_
  all_goals try first | omega
  refine hK1 _ _ _ ?_; clear hK1
  refine AW.seq fun K2 hK2 => ?_
  refine AW.seq fun K3 hK3 => ?_
  -- region 1
  refine AW.regionK 100 (fun _ => none) [0, 1, 10] [] ?_
  simp only [go_sem, reduceIte, reduceCtorEq, Nat.reduceAdd, Nat.reduceMul, Nat.reduceEqDiff, Nat.reduceLT, Nat.reduceLeDiff, Nat.reduceSub, Nat.reducePow, Nat.reduceBEq, Int.reduceToNat, List.reduceReplicate, hw, hw1, hw2, hl1]
  repeat with_reducible refine cj ?_ ?_
  all_goals try first | omega
  refine hK3 _ _ _ ?_; clear hK3
  -- cond 1
  refine AW.cond rfl (by simp only [go_sem, reduceIte, reduceCtorEq, Nat.reduceAdd, Nat.reduceMul, Nat.reduceEqDiff, Nat.reduceLT, Nat.reduceLeDiff, Nat.reduceSub, Nat.reducePow, Nat.reduceBEq, Int.reduceToNat, List.reduceReplicate]) ?_ ?_
  · intro hb
    try simp only [hB, decide_eq_true_eq, decide_eq_false_iff_not] at hb
    exfalso; omega
  · intro hb
    try simp only [hB, decide_eq_true_eq, decide_eq_false_iff_not] at hb
    refine AW.skip ?_
    refine hK2 _ _ _ ?_; clear hK2
    refine AW.seq fun K4 hK4 => ?_
    -- region 3
    refine AW.regionK 100 (fun ii => if ii = 5 then some (.reads false (.tup [.int .u64 0, .int .u64 n])) else none) [0, 5, 6] [] ?_
    simp only [go_sem, reduceIte, reduceCtorEq, Nat.reduceAdd, Nat.reduceMul, Nat.reduceEqDiff, Nat.reduceLT, Nat.reduceLeDiff, Nat.reduceSub, Nat.reducePow, Nat.reduceBEq, Int.reduceToNat, List.reduceReplicate, hw, hw1, hw2, hl1]
    repeat with_reducible refine cj ?_ ?_
    all_goals try first | (exact hm) | omega | exact ent (by kernel_rfl)
    refine hK4 _ _ _ ?_; clear hK4
    refine AW.seq fun K5 hK5 => ?_
    refine AW.seq fun K6 hK6 => ?_
    -- region 4
    refine AW.regionK 100 (fun _ => none) [0, 6, 26] [] ?_
    simp only [go_sem, reduceIte, reduceCtorEq, Nat.reduceAdd, Nat.reduceMul, Nat.reduceEqDiff, Nat.reduceLT, Nat.reduceLeDiff, Nat.reduceSub, Nat.reducePow, Nat.reduceBEq, Int.reduceToNat, List.reduceReplicate, hw, hw1, hw2, hl1]
    repeat with_reducible refine cj ?_ ?_
    all_goals try first | omega | (intros; (repeat' apply And.intro) <;> first | assumption | omega | decide) | (intro hgd; exact absurd hgd (by decide)) | rfl | (simp only [go_sem, reduceIte, reduceCtorEq, Nat.reduceAdd, Nat.reduceMul, Nat.reduceEqDiff, Nat.reduceLT, Nat.reduceLeDiff, Nat.reduceSub, Nat.reducePow, Nat.reduceBEq, Int.reduceToNat, List.reduceReplicate, hw, hw1, hw2, hl1]; done) | (intro _hgd; simp_all [go_sem]; done)
    refine hK6 _ _ _ ?_; clear hK6
    -- cond 2
    refine AW.cond rfl (by simp only [go_sem, reduceIte, reduceCtorEq, Nat.reduceAdd, Nat.reduceMul, Nat.reduceEqDiff, Nat.reduceLT, Nat.reduceLeDiff, Nat.reduceSub, Nat.reducePow, Nat.reduceBEq, Int.reduceToNat, List.reduceReplicate]) ?_ ?_
    · intro hb
      try simp only [hB, decide_eq_true_eq, decide_eq_false_iff_not] at hb
      exfalso; rcases hb with hb | hb <;> omega
    · intro hb
      try simp only [hB, decide_eq_true_eq, decide_eq_false_iff_not] at hb
      refine AW.skip ?_
      refine hK5 _ _ _ ?_; clear hK5
      refine AW.seq fun K7 hK7 => ?_
      -- region 6
      refine AW.regionK 100 (fun _ => none) [0, 7] [130] ?_
      simp only [go_sem, reduceIte, reduceCtorEq, Nat.reduceAdd, Nat.reduceMul, Nat.reduceEqDiff, Nat.reduceLT, Nat.reduceLeDiff, Nat.reduceSub, Nat.reducePow, Nat.reduceBEq, Int.reduceToNat, List.reduceReplicate, hw, hw1, hw2, hl1]
      repeat with_reducible refine cj ?_ ?_
      all_goals try first | omega
      refine hK7 _ _ _ ?_; clear hK7
      refine AW.seq fun K8 hK8 => ?_
      -- region 7
      refine AW.regionK 100 (fun _ => none) [7, 8] [130] ?_
      simp only [go_sem, reduceIte, reduceCtorEq, Nat.reduceAdd, Nat.reduceMul, Nat.reduceEqDiff, Nat.reduceLT, Nat.reduceLeDiff, Nat.reduceSub, Nat.reducePow, Nat.reduceBEq, Int.reduceToNat, List.reduceReplicate, hw, hw1, hw2, hl1]
      repeat with_reducible refine cj ?_ ?_
      all_goals try first | omega | (simp [scP, scalar]; done) | exact scP_words _ | exact scP_ints _ | exact scP_bools _
      refine hK8 _ _ _ ?_; clear hK8
      refine AW.seq fun K9 hK9 => ?_
      refine AW.block ?_
      -- loop 1
      refine AW.loopE (fun mm ee ss kk => ∃ (c g v : Nat), n - c = mm ∧ ee = [(7, .sl ⟨130, g, none⟩ 0 n none), (8, .int .i64 (c : Nat))] ∧ ss = [(130, some ⟨g, v, 1, ints (repC a n c)⟩)] ∧ (c ≤ n ∧ (c = 0 → n = 0))) ?_ ?_
      · refine ⟨_, min 1 n, ?_, ?_, rfl, ?henv, ?hstore, ?hst⟩
        case henv =>
          repeat' (first | rfl | refine env_cons ?_ ?_ | refine st_cons ?_ ?_ ?_ ?_ | refine int_eq ?_ | refine bool_eq ?_ | refine rsl_eq ?_ | refine osl_eq ?_ | refine sl_eq ?_ ?_ ?_ | refine ptr_eq ?_ ?_ ?_ | refine agg_eq ?_ | refine es_cons ?_ ?_ | refine row_cons ?_ ?_)
          all_goals (first | (simp; done) | omega | (simp; omega))
        case hstore =>
          repeat' (first | rfl | refine env_cons ?_ ?_ | refine st_cons ?_ ?_ ?_ ?_ | refine int_eq ?_ | refine bool_eq ?_ | refine rsl_eq ?_ | refine osl_eq ?_ | refine sl_eq ?_ ?_ ?_ | refine ptr_eq ?_ ?_ ?_ | refine agg_eq ?_ | refine es_cons ?_ ?_ | refine row_cons ?_ ?_)
          all_goals (rw [hz]; unfold repC; by_cases h0 : n = 0; (subst h0; rfl); (rw [show min 1 n = 1 by omega]; simp [ints]))
        case hst =>
          first | trivial | omega | (simp; done) | (simp; omega)
      rintro mm ee ss kk ⟨c, g, v, rfl, rfl, rfl, hI⟩
      generalize hQl1 : thenQ _ _ = Ql1
      have hrl : (repC a n c).length = n := by simp [repC]; omega
      refine AW.seq fun K10 hK10 => ?_
      refine AW.seq fun K11 hK11 => ?_
      -- region 8
      refine AW.regionK 100 (fun _ => none) [7, 8, 37] [130] ?_
      simp only [go_sem, reduceIte, reduceCtorEq, Nat.reduceAdd, Nat.reduceMul, Nat.reduceEqDiff, Nat.reduceLT, Nat.reduceLeDiff, Nat.reduceSub, Nat.reducePow, Nat.reduceBEq, Int.reduceToNat, List.reduceReplicate, hw, hw1, hw2, hl1]
      repeat with_reducible refine cj ?_ ?_
      all_goals try first | omega
      refine hK11 _ _ _ ?_; clear hK11
      -- cond 3
      refine AW.cond rfl (by simp only [go_sem, reduceIte, reduceCtorEq, Nat.reduceAdd, Nat.reduceMul, Nat.reduceEqDiff, Nat.reduceLT, Nat.reduceLeDiff, Nat.reduceSub, Nat.reducePow, Nat.reduceBEq, Int.reduceToNat, List.reduceReplicate]) ?_ ?_
      · intro hb
        try simp only [hB, decide_eq_true_eq, decide_eq_false_iff_not] at hb
        refine AW.skip ?_
        refine hK10 _ _ _ ?_; clear hK10
        refine AW.block ?_
        -- region 9
        refine AW.regionD mixed 100 (fun _ => none) [7, 8] [130] ?_
        simp only [go_sem, reduceIte, reduceCtorEq, Nat.reduceAdd, Nat.reduceMul, Nat.reduceEqDiff, Nat.reduceLT, Nat.reduceLeDiff, Nat.reduceSub, Nat.reducePow, Nat.reduceBEq, Int.reduceToNat, List.reduceReplicate, hw, hw1, hw2, hl1]
        repeat with_reducible refine cj ?_ ?_
        all_goals try first | omega | exact chk (by kernel_rfl) | (simp [scP, scalar]; done) | exact scP_words _ | exact scP_ints _ | exact scP_bools _
        rw [← hQl1]
        change Exists _
        refine ⟨_, ?hm, c + min (n - c) c, ?_, ?_, rfl, ?henv, ?hstore, ?hst⟩
        case henv =>
          repeat' (first | rfl | refine env_cons ?_ ?_ | refine st_cons ?_ ?_ ?_ ?_ | refine int_eq ?_ | refine bool_eq ?_ | refine rsl_eq ?_ | refine osl_eq ?_ | refine sl_eq ?_ ?_ ?_ | refine ptr_eq ?_ ?_ ?_ | refine agg_eq ?_ | refine es_cons ?_ ?_ | refine row_cons ?_ ?_)
          all_goals (first | (simp; done) | omega | (simp; omega))
        case hstore =>
          repeat' (first | rfl | refine env_cons ?_ ?_ | refine st_cons ?_ ?_ ?_ ?_ | refine int_eq ?_ | refine bool_eq ?_ | refine rsl_eq ?_ | refine osl_eq ?_ | refine sl_eq ?_ ?_ ?_ | refine ptr_eq ?_ ?_ ?_ | refine agg_eq ?_ | refine es_cons ?_ ?_ | refine row_cons ?_ ?_)
          all_goals (rw [repC_step a hI.1])
        case hst =>
          first | trivial | omega | (simp; done) | (simp; omega)
        case hm => omega
      · intro hb
        try simp only [hB, decide_eq_true_eq, decide_eq_false_iff_not] at hb
        refine AW.keep [7] [130] ?_
        try simp only [go_sem, reduceIte, reduceCtorEq, Nat.reduceAdd, Nat.reduceMul, Nat.reduceEqDiff, Nat.reduceLT, Nat.reduceLeDiff, Nat.reduceSub, Nat.reducePow, Nat.reduceBEq, Int.reduceToNat, List.reduceReplicate]
        refine AW.exit ?_
        rw [← hQl1]
        refine hK9 _ _ _ ?_; clear hK9
        refine AW.seq fun K12 hK12 => ?_
        -- region 10
        refine AW.regionK 100 (fun _ => none) [4] [130] ?_
        simp only [go_sem, reduceIte, reduceCtorEq, Nat.reduceAdd, Nat.reduceMul, Nat.reduceEqDiff, Nat.reduceLT, Nat.reduceLeDiff, Nat.reduceSub, Nat.reducePow, Nat.reduceBEq, Int.reduceToNat, List.reduceReplicate, hw, hw1, hw2, hl1]
        repeat with_reducible refine cj ?_ ?_
        all_goals try first | omega
        refine hK12 _ _ _ ?_; clear hK12
        refine AW.ret ?_
        rw [← hQr]
        simp only [go_sem, reduceIte, reduceCtorEq, Nat.reduceAdd, Nat.reduceMul, Nat.reduceEqDiff, Nat.reduceLT, Nat.reduceLeDiff, Nat.reduceSub, Nat.reducePow, Nat.reduceBEq, Int.reduceToNat, List.reduceReplicate, hw, hw1, hw2, hl1]
        have hc : c = n := by omega
        subst hc
        have hrc : repC a c c = List.replicate c a := by simp [repC]
        rw [hrc]
        refine ⟨[(130, 0, true)], ?_⟩
        simp only [go_sem, reduceIte, Nat.reduceEqDiff]
end Go.Proofs.R

/- The program's cycle. -/
namespace Go.AM
abbrev CSt := List Int × List Int × Int
def cycI (t : List (List Bool)) (f at_ v : Int) (i : Nat) (st : CSt) : CSt :=
  if atT t i v.toNat then
    if (i : Int) ≠ f ∧ st.1.getD i 0 < 0 then (st.1.set i (at_ + 1), st.2.1 ++ [(i : Int)], if (i : Int) = f ∧ st.2.2 = 0 then at_ + 1 else st.2.2)
    else (st.1, st.2.1, if (i : Int) = f ∧ st.2.2 = 0 then at_ + 1 else st.2.2)
  else st
theorem cycI_eq (t : List (List Bool)) (f at_ v : Int) (i : Nat) (st : CSt) : cycI t f at_ v i st =
  if atT t i v.toNat then
    if (i : Int) ≠ f ∧ st.1.getD i 0 < 0 then (st.1.set i (at_ + 1), st.2.1 ++ [(i : Int)], if (i : Int) = f ∧ st.2.2 = 0 then at_ + 1 else st.2.2)
    else (st.1, st.2.1, if (i : Int) = f ∧ st.2.2 = 0 then at_ + 1 else st.2.2)
  else st := rfl
def cycAt (k : Nat) (st : CSt) : Int := if 0 < k then st.1.getD (st.2.1.getD k 0).toNat 0 else 0
def cycK (t : List (List Bool)) (n : Nat) (f : Int) (k : Nat) (st : CSt) : CSt := iter (cycI t f (cycAt k st) (st.2.1.getD k 0)) n st
def cycB (t : List (List Bool)) (n : Nat) (f : Int) : Nat → Nat → CSt → Option CSt
  | 0, k, st => if k < st.2.1.length then none else some st
  | m + 1, k, st => if k < st.2.1.length then cycB t n f m (k + 1) (cycK t n f k st) else some st
def cyc0 (n : Nat) (f : Int) : CSt := (List.replicate n (-1), [f], 0)
/-- The next node of the cycle. -/
def stepO (t : List (List Bool)) (n : Nat) (f : Int) (steps : List Int) (last left : Int) : Option Nat := (List.range n).find? fun j => atT t last.toNat j && decide ((j : Int) ≠ f) && decide (steps.getD j 0 = left)
def lastO (out : List Int) : Int := out.getD (out.length - 1) 0
def outW (t : List (List Bool)) (n : Nat) (f : Int) (steps : List Int) : Nat → List Int → List Int
  | 0, out => out
  | m + 1, out => outW t n f steps m (match stepO t n f steps (lastO out) (m + 1 : Nat) with
    | some j => out ++ [(j : Int)]
    | none => out)
def firstC (n : Nat) (t : List (List Bool)) : Option Nat := (List.range n).find? fun i => atT (warsh n t) i i
structure WfC (n : Nat) (f : Int) (st : CSt) : Prop where
  len : st.1.length = n
  rng : ∀ v ∈ st.2.1, 0 ≤ v ∧ v < n
  cnt : st.1.count (-1) + st.2.1.length ≤ n + 1
  vals : ∀ i, -1 ≤ st.1.getD i 0 ∧ st.1.getD i 0 ≤ st.2.1.length + 1
  ln : 0 ≤ st.2.2 ∧ st.2.2 ≤ st.2.1.length + 2
theorem count_setI {l : List Int} {i : Nat} {k : Int} (h : l.getD i 0 = -1) (hk : k ≠ -1) : (l.set i k).count (-1) + 1 = l.count (-1) := by
  have hi : i < l.length := by
    rcases Nat.lt_or_ge i l.length with h1 | h1
    · exact h1
    · rw [Go.AM.getD_out h1] at h; omega
  rw [List.count_set hi]
  have e1 : l[i] = -1 := by simpa [List.getD_eq_getElem?_getD, hi] using h
  have e2 : (k == -1) = false := by simpa using hk
  have hpos : 0 < l.count (-1) := List.count_pos_iff.2 (e1 ▸ List.getElem_mem hi)
  simp only [e1, beq_self_eq_true, if_true, e2, Bool.false_eq_true, if_false]
  omega
theorem find_range_none {p : Nat → Bool} : ∀ {n : Nat}, (List.range n).find? p = none ↔ ∀ i, i < n → p i = false := fun {n} => by
  rw [List.find?_eq_none]; simp
theorem find_range_some {p : Nat → Bool} {n i : Nat} (hi : i < n) (hp : p i = true) (h : ∀ j, j < i → p j = false) : (List.range n).find? p = some i := by
  rw [List.find?_range_eq_some]
  exact ⟨hp, List.mem_range.2 hi, fun j hj => by simp [h j hj]⟩
theorem find_range_lt {p : Nat → Bool} {n i : Nat} (h : (List.range n).find? p = some i) : i < n ∧ p i = true ∧ ∀ j, j < i → p j = false := by
  rw [List.find?_range_eq_some] at h
  exact ⟨List.mem_range.1 h.2.1, h.1, fun j hj => by simpa using h.2.2 j hj⟩
end Go.AM
namespace Go.AM
theorem WfC.start {n : Nat} {f : Int} (h0 : 0 ≤ f) (h1 : f < n) : WfC n f (cyc0 n f) := by
  refine ⟨by simp [cyc0], fun v hv => ?_, by simp [cyc0], fun i => ?_, by simp [cyc0]⟩
  · simp [cyc0] at hv; subst hv; exact ⟨h0, h1⟩
  · simp only [cyc0]
    rw [List.getD_eq_getElem?_getD, List.getElem?_replicate]; split <;> simp
theorem WfC.i {n : Nat} {f : Int} {st : CSt} (h : WfC n f st) (t : List (List Bool)) {at_ : Int} (v : Int) {i : Nat} (hi : i < n) (ha0 : -1 ≤ at_) (ha1 : at_ ≤ st.2.1.length + 1) : WfC n f (cycI t f at_ v i st) ∧ st.2.1.length ≤ (cycI t f at_ v i st).2.1.length ∧ ∀ (j : Nat) (x : Int), st.2.1[j]? = some x → (cycI t f at_ v i st).2.1[j]? = some x := by
  unfold cycI
  split
  · split
    · rename_i _ hc
      have hv := h.vals i
      have hm : st.1.getD i 0 = -1 := by omega
      have hcs := count_setI hm (k := at_ + 1) (by omega)
      have hln := h.ln
      refine ⟨⟨by simp [h.len], fun x hx => ?_, ?_, fun j => ?_, ?_⟩, by simp, fun j x hj => ?_⟩
      · rcases List.mem_append.1 hx with hx | hx
        · exact h.rng x hx
        · simp at hx; subst hx; omega
      · have := h.cnt
        simp only [List.length_append, List.length_singleton]; omega
      · have := h.vals j
        simp only [List.length_append, List.length_singleton]
        by_cases e : i = j
        · subst e
          by_cases h2 : i < st.1.length
          · rw [Go.AM.getD_set_eq h2]; omega
          · rw [List.set_eq_of_length_le (by omega)]; omega
        · rw [Go.AM.getD_set_ne e]; omega
      · simp only [List.length_append, List.length_singleton]
        split <;> omega
      · rw [List.getElem?_append_left (List.getElem?_eq_some_iff.1 hj).1]; exact hj
    · have hln := h.ln
      refine ⟨⟨h.len, h.rng, h.cnt, h.vals, ?_⟩, Nat.le_refl _, fun j x hj => hj⟩
      simp only
      split <;> omega
  · exact ⟨h, Nat.le_refl _, fun j x hj => hj⟩
theorem WfC.k' {n : Nat} {f : Int} {st : CSt} (h : WfC n f st) (t : List (List Bool)) {at_ : Int} (v : Int) (ha0 : -1 ≤ at_) (ha1 : at_ ≤ st.2.1.length + 1) : ∀ m, m ≤ n → WfC n f (iter (cycI t f at_ v) m st) ∧ st.2.1.length ≤ (iter (cycI t f at_ v) m st).2.1.length ∧ ∀ (j : Nat) (x : Int), st.2.1[j]? = some x → (iter (cycI t f at_ v) m st).2.1[j]? = some x
  | 0, _ => ⟨h, Nat.le_refl _, fun _ _ hj => hj⟩
  | m + 1, hm => by
    obtain ⟨h1, h2, h3⟩ := WfC.k' h t v ha0 ha1 m (by omega)
    obtain ⟨g1, g2, g3⟩ := h1.i t v (i := m) (by omega) ha0 (by omega)
    exact ⟨g1, Nat.le_trans h2 g2, fun j x hj => g3 j x (h3 j x hj)⟩
theorem WfC.at {n : Nat} {f : Int} {st : CSt} (h : WfC n f st) (k : Nat) : -1 ≤ cycAt k st ∧ cycAt k st ≤ st.2.1.length + 1 := by
  unfold cycAt; split
  · exact h.vals _
  · omega
theorem WfC.k {n : Nat} {f : Int} {st : CSt} (h : WfC n f st) (t : List (List Bool)) (k : Nat) : WfC n f (cycK t n f k st) ∧ st.2.1.length ≤ (cycK t n f k st).2.1.length ∧ ∀ (j : Nat) (x : Int), st.2.1[j]? = some x → (cycK t n f k st).2.1[j]? = some x :=
  WfC.k' h t _ (h.at k).1 (h.at k).2 n (Nat.le_refl _)
theorem cycB_some {t : List (List Bool)} {n : Nat} {f : Int} : ∀ (m k : Nat) (st : CSt), WfC n f st → n + 1 < m + k → ∃ r, cycB t n f m k st = some r ∧ WfC n f r
  | 0, k, st, h, hm => by
    have := h.cnt
    exact ⟨st, by unfold cycB; rw [if_neg (by omega)], h⟩
  | m + 1, k, st, h, hm => by
    unfold cycB
    by_cases hk : k < st.2.1.length
    · rw [if_pos hk]; exact cycB_some m (k + 1) _ (h.k t k).1 (by omega)
    · rw [if_neg hk]; exact ⟨st, rfl, h⟩
theorem firstC_none {n : Nat} {t : List (List Bool)} : firstC n t = none ↔ acyc n t = true := by
  unfold firstC acyc
  rw [find_range_none, List.all_eq_true]
  constructor
  · intro h i hi; rw [h i (List.mem_range.1 hi)]; rfl
  · intro h i hi; have := h i (List.mem_range.2 hi); simpa using this
end Go.AM

namespace Go.Proofs.R
open Go.AM Go
set_option maxRecDepth 100000
set_option maxHeartbeats 2000000
theorem cycle_e (rs : List USet) (hl : longR rs) (hv : validR rs = false) : Reads Try.prog 31 false [relV rs] (.tup [.rsl 1 [], .int .i64 1]) := by
  have h := rvalid_r rs hl.1 hl.2
  rw [hv] at h
  unfold relV at *
  refine Reads.body (rs := [.tmp 2, .tmp 3]) Try.func31 rfl Try.ntmps31 rfl (by simp) ?_
  generalize hQr : retQ _ _ _ = Qr
  refine AW.seq fun K1 hK1 => ?_
  -- region 0
  refine AW.regionK 0 (fun _ => none) [1] [1] ?_
  simp only [go_sem, reduceIte, reduceCtorEq, Nat.reduceAdd, Nat.reduceMul, Nat.reduceEqDiff, Nat.reduceLT, Nat.reduceLeDiff, Nat.reduceSub, Nat.reducePow, Nat.reduceBEq, Int.reduceToNat, List.reduceReplicate]
  repeat with_reducible refine cj ?_ ?_
  all_goals try first | omega
  refine hK1 _ _ _ ?_; clear hK1
  refine AW.seq fun K2 hK2 => ?_
  refine AW.seq fun K3 hK3 => ?_
  -- region 1
  refine AW.regionK 0 (fun ii => if ii = 1 then some (.reads false (.bool false)) else none) [1, 19] [1] ?_
  simp only [go_sem, reduceIte, reduceCtorEq, Nat.reduceAdd, Nat.reduceMul, Nat.reduceEqDiff, Nat.reduceLT, Nat.reduceLeDiff, Nat.reduceSub, Nat.reducePow, Nat.reduceBEq, Int.reduceToNat, List.reduceReplicate]
  repeat with_reducible refine cj ?_ ?_
  all_goals try first | (exact h) | omega | exact ent (by kernel_rfl)
  refine hK3 _ _ _ ?_; clear hK3
  -- cond 1
  refine AW.cond rfl (by simp only [go_sem, reduceIte, reduceCtorEq, Nat.reduceAdd, Nat.reduceMul, Nat.reduceEqDiff, Nat.reduceLT, Nat.reduceLeDiff, Nat.reduceSub, Nat.reducePow, Nat.reduceBEq, Int.reduceToNat, List.reduceReplicate]) ?_ ?_
  · intro hb
    try simp only [hB, decide_eq_true_eq, decide_eq_false_iff_not] at hb
    refine AW.seq fun K4 hK4 => ?_
    -- region 2
    refine AW.regionK 0 (fun _ => none) [2, 3] [] ?_
    simp only [go_sem, reduceIte, reduceCtorEq, Nat.reduceAdd, Nat.reduceMul, Nat.reduceEqDiff, Nat.reduceLT, Nat.reduceLeDiff, Nat.reduceSub, Nat.reducePow, Nat.reduceBEq, Int.reduceToNat, List.reduceReplicate]
    repeat with_reducible refine cj ?_ ?_
    all_goals try first | omega
    refine hK4 _ _ _ ?_; clear hK4
    refine AW.ret ?_
    rw [← hQr]
    simp only [go_sem, reduceIte, reduceCtorEq, Nat.reduceAdd, Nat.reduceMul, Nat.reduceEqDiff, Nat.reduceLT, Nat.reduceLeDiff, Nat.reduceSub, Nat.reducePow, Nat.reduceBEq, Int.reduceToNat, List.reduceReplicate]
    exact Wk.tup2 (Wk.nil 1) (Wk.refl _)
  · intro hb
    try simp only [hB, decide_eq_true_eq, decide_eq_false_iff_not] at hb
    simp at hb
theorem cycle_g (n : Nat) (t : List (List Bool)) (hs : Sq n t) (hn : n ≤ 512) (hac : firstC n t = none) : Reads Try.prog 31 false [relB t] (.tup [.rsl 1 [], .int .i64 ((7 : Nat) : Int)]) := by
  have h := valid_g n t hs hn
  have ha := closure_r n t hs hn
  have hsw := hs.warsh
  have hlw : (tabR (warsh n t)).length = n := by rw [tabR_len, hsw.len]
  have hh := fun j hj => rhas_r n (warsh n t) hsw hn j j hj hj
  have hnone := (find_range_none.1 hac : ∀ i, i < n → atT (warsh n t) i i = false)
  generalize warsh n t = c at *
  unfold relB at *
  refine Reads.body (rs := [.tmp 2, .tmp 3]) Try.func31 rfl Try.ntmps31 rfl (by simp) ?_
  generalize hQr : retQ _ _ _ = Qr
  refine AW.seq fun K1 hK1 => ?_
  -- region 0
  refine AW.regionK 0 (fun _ => none) [1] [1] ?_
  simp only [go_sem, reduceIte, reduceCtorEq, Nat.reduceAdd, Nat.reduceMul, Nat.reduceEqDiff, Nat.reduceLT, Nat.reduceLeDiff, Nat.reduceSub, Nat.reducePow, Nat.reduceBEq, Int.reduceToNat, List.reduceReplicate, hlw]
  repeat with_reducible refine cj ?_ ?_
  all_goals try first | omega
  refine hK1 _ _ _ ?_; clear hK1
  refine AW.seq fun K2 hK2 => ?_
  refine AW.seq fun K3 hK3 => ?_
  -- region 1
  refine AW.regionK 0 (fun ii => if ii = 1 then some (.reads false (.bool true)) else none) [1, 19] [1] ?_
  simp only [go_sem, reduceIte, reduceCtorEq, Nat.reduceAdd, Nat.reduceMul, Nat.reduceEqDiff, Nat.reduceLT, Nat.reduceLeDiff, Nat.reduceSub, Nat.reducePow, Nat.reduceBEq, Int.reduceToNat, List.reduceReplicate, hlw]
  repeat with_reducible refine cj ?_ ?_
  all_goals try first | (exact h) | omega | exact ent (by kernel_rfl)
  refine hK3 _ _ _ ?_; clear hK3
  -- cond 1
  refine AW.cond rfl (by simp only [go_sem, reduceIte, reduceCtorEq, Nat.reduceAdd, Nat.reduceMul, Nat.reduceEqDiff, Nat.reduceLT, Nat.reduceLeDiff, Nat.reduceSub, Nat.reducePow, Nat.reduceBEq, Int.reduceToNat, List.reduceReplicate]) ?_ ?_
  · intro hb
    try simp only [hB, decide_eq_true_eq, decide_eq_false_iff_not] at hb
    simp at hb
  · intro hb
    try simp only [hB, decide_eq_true_eq, decide_eq_false_iff_not] at hb
    refine AW.skip ?_
    refine hK2 _ _ _ ?_; clear hK2
    refine AW.seq fun K4 hK4 => ?_
    -- region 3
    refine AW.regionK 0 (fun ii => if ii = 1 then some (.reads true (.agg [.rsl 2 (tabR c)])) else none) [1, 4] [1, 4] ?_
    simp only [go_sem, reduceIte, reduceCtorEq, Nat.reduceAdd, Nat.reduceMul, Nat.reduceEqDiff, Nat.reduceLT, Nat.reduceLeDiff, Nat.reduceSub, Nat.reducePow, Nat.reduceBEq, Int.reduceToNat, List.reduceReplicate, hlw]
    repeat with_reducible refine cj ?_ ?_
    all_goals try first | (exact ha) | omega | exact ent (by kernel_rfl)
    refine hK4 _ _ _ ?_; clear hK4
    refine AW.seq fun K5 hK5 => ?_
    -- region 4
    refine AW.regionK 0 (fun _ => none) [1, 4, 5] [1, 4] ?_
    simp only [go_sem, reduceIte, reduceCtorEq, Nat.reduceAdd, Nat.reduceMul, Nat.reduceEqDiff, Nat.reduceLT, Nat.reduceLeDiff, Nat.reduceSub, Nat.reducePow, Nat.reduceBEq, Int.reduceToNat, List.reduceReplicate, hlw]
    repeat with_reducible refine cj ?_ ?_
    all_goals try first | omega
    refine hK5 _ _ _ ?_; clear hK5
    refine AW.seq fun K6 hK6 => ?_
    refine AW.seq fun K7 hK7 => ?_
    -- region 5
    refine AW.regionK 0 (fun _ => none) [1, 4, 5, 24, 25] [1, 4] ?_
    simp only [go_sem, reduceIte, reduceCtorEq, Nat.reduceAdd, Nat.reduceMul, Nat.reduceEqDiff, Nat.reduceLT, Nat.reduceLeDiff, Nat.reduceSub, Nat.reducePow, Nat.reduceBEq, Int.reduceToNat, List.reduceReplicate, hlw]
    repeat with_reducible refine cj ?_ ?_
    all_goals try first | omega
    refine hK7 _ _ _ ?_; clear hK7
    refine AW.block ?_
    -- loop 1
    refine AW.loopE (fun mm ee ss kk => ∃ (j g1 v1 g4 v4 : Nat), n - j = mm ∧ ee = [(1, .ptr ⟨1, g1, none⟩ 0 0), (4, .ptr ⟨4, g4, none⟩ 0 0), (5, .int .i64 (-1)), (24, .int .i64 n), (25, .int .i64 (j : Nat))] ∧ ss = [(1, some ⟨g1, v1, 1, [[.rsl 2 (tabR t)]]⟩), (4, some ⟨g4, v4, 1, [[.rsl 2 (tabR c)]]⟩)] ∧ (j ≤ n)) ?_ ?_
    · refine ⟨_, 0, ?_, ?_, ?_, ?_, rfl, ?henv, ?hstore, ?hst⟩
      case henv =>
        repeat' (first | rfl | refine env_cons ?_ ?_ | refine st_cons ?_ ?_ ?_ ?_ | refine int_eq ?_ | refine bool_eq ?_ | refine rsl_eq ?_ | refine osl_eq ?_ | refine sl_eq ?_ ?_ ?_ | refine ptr_eq ?_ ?_ ?_ | refine agg_eq ?_ | refine es_cons ?_ ?_ | refine row_cons ?_ ?_)
        all_goals (first | (simp; done) | omega | (simp; omega))
      case hstore =>
        repeat' (first | rfl | refine env_cons ?_ ?_ | refine st_cons ?_ ?_ ?_ ?_ | refine int_eq ?_ | refine bool_eq ?_ | refine rsl_eq ?_ | refine osl_eq ?_ | refine sl_eq ?_ ?_ ?_ | refine ptr_eq ?_ ?_ ?_ | refine agg_eq ?_ | refine es_cons ?_ ?_ | refine row_cons ?_ ?_)
        all_goals (first | (simp; done) | omega | (simp; omega))
      case hst =>
        first | trivial | omega | (simp; done) | (simp; omega)
    rintro mm ee ss kk ⟨j, g1, v1, g4, v4, rfl, rfl, rfl, hI⟩
    generalize hQl1 : thenQ _ _ = Ql1
    refine AW.seq fun K8 hK8 => ?_
    -- region 6
    refine AW.regionK 0 (fun _ => none) [1, 4, 5, 24, 25, 26] [1, 4] ?_
    simp only [go_sem, reduceIte, reduceCtorEq, Nat.reduceAdd, Nat.reduceMul, Nat.reduceEqDiff, Nat.reduceLT, Nat.reduceLeDiff, Nat.reduceSub, Nat.reducePow, Nat.reduceBEq, Int.reduceToNat, List.reduceReplicate, hlw]
    repeat with_reducible refine cj ?_ ?_
    all_goals try first | omega
    refine hK8 _ _ _ ?_; clear hK8
    refine AW.seq fun K9 hK9 => ?_
    -- cond 2
    refine AW.cond rfl (by simp only [go_sem, reduceIte, reduceCtorEq, Nat.reduceAdd, Nat.reduceMul, Nat.reduceEqDiff, Nat.reduceLT, Nat.reduceLeDiff, Nat.reduceSub, Nat.reducePow, Nat.reduceBEq, Int.reduceToNat, List.reduceReplicate]) ?_ ?_
    · intro hb
      try simp only [hB, decide_eq_true_eq, decide_eq_false_iff_not] at hb
      have hhj := hh j (by omega)
      rw [hnone j (by omega)] at hhj
      refine AW.skip ?_
      refine hK9 _ _ _ ?_; clear hK9
      refine AW.seq fun K10 hK10 => ?_
      refine AW.block ?_
      refine AW.seq fun K11 hK11 => ?_
      -- region 7
      refine AW.regionK 0 (fun _ => none) [1, 4, 5, 6, 24, 25] [1, 4] ?_
      simp only [go_sem, reduceIte, reduceCtorEq, Nat.reduceAdd, Nat.reduceMul, Nat.reduceEqDiff, Nat.reduceLT, Nat.reduceLeDiff, Nat.reduceSub, Nat.reducePow, Nat.reduceBEq, Int.reduceToNat, List.reduceReplicate, hlw]
      repeat with_reducible refine cj ?_ ?_
      all_goals try first | omega
      refine hK11 _ _ _ ?_; clear hK11
      refine AW.seq fun K12 hK12 => ?_
      -- region 8
      refine AW.regionK 0 (fun ii => if ii = 3 then some (.reads false (.bool false)) else none) [1, 4, 5, 6, 24, 25, 31] [1, 4] ?_
      simp only [go_sem, reduceIte, reduceCtorEq, Nat.reduceAdd, Nat.reduceMul, Nat.reduceEqDiff, Nat.reduceLT, Nat.reduceLeDiff, Nat.reduceSub, Nat.reducePow, Nat.reduceBEq, Int.reduceToNat, List.reduceReplicate, hlw]
      repeat with_reducible refine cj ?_ ?_
      all_goals try first | (exact hhj) | omega | exact ent (by kernel_rfl)
      refine hK12 _ _ _ ?_; clear hK12
      -- cond 3
      refine AW.cond rfl (by simp only [go_sem, reduceIte, reduceCtorEq, Nat.reduceAdd, Nat.reduceMul, Nat.reduceEqDiff, Nat.reduceLT, Nat.reduceLeDiff, Nat.reduceSub, Nat.reducePow, Nat.reduceBEq, Int.reduceToNat, List.reduceReplicate]) ?_ ?_
      · intro hb
        try simp only [hB, decide_eq_true_eq, decide_eq_false_iff_not] at hb
        simp at hb
      · intro hb
        try simp only [hB, decide_eq_true_eq, decide_eq_false_iff_not] at hb
        refine AW.skip ?_
        refine hK10 _ _ _ ?_; clear hK10
        -- region 10
        refine AW.regionK 0 (fun _ => none) [1, 4, 5, 24, 25] [1, 4] ?_
        simp only [go_sem, reduceIte, reduceCtorEq, Nat.reduceAdd, Nat.reduceMul, Nat.reduceEqDiff, Nat.reduceLT, Nat.reduceLeDiff, Nat.reduceSub, Nat.reducePow, Nat.reduceBEq, Int.reduceToNat, List.reduceReplicate, hlw]
        repeat with_reducible refine cj ?_ ?_
        all_goals try first | omega
        rw [← hQl1]
        change Exists _
        refine ⟨_, ?hm, j + 1, ?_, ?_, ?_, ?_, rfl, ?henv, ?hstore, ?hst⟩
        case henv =>
          repeat' (first | rfl | refine env_cons ?_ ?_ | refine st_cons ?_ ?_ ?_ ?_ | refine int_eq ?_ | refine bool_eq ?_ | refine rsl_eq ?_ | refine osl_eq ?_ | refine sl_eq ?_ ?_ ?_ | refine ptr_eq ?_ ?_ ?_ | refine agg_eq ?_ | refine es_cons ?_ ?_ | refine row_cons ?_ ?_)
          all_goals (first | (simp; done) | omega | (simp; omega))
        case hstore =>
          repeat' (first | rfl | refine env_cons ?_ ?_ | refine st_cons ?_ ?_ ?_ ?_ | refine int_eq ?_ | refine bool_eq ?_ | refine rsl_eq ?_ | refine osl_eq ?_ | refine sl_eq ?_ ?_ ?_ | refine ptr_eq ?_ ?_ ?_ | refine agg_eq ?_ | refine es_cons ?_ ?_ | refine row_cons ?_ ?_)
          all_goals (first | (simp; done) | omega | (simp; omega))
        case hst =>
          first | trivial | omega | (simp; done) | (simp; omega)
        case hm => omega
    · intro hb
      try simp only [hB, decide_eq_true_eq, decide_eq_false_iff_not] at hb
      refine AW.keep [1, 5] [1] ?_
      try simp only [go_sem, reduceIte, reduceCtorEq, Nat.reduceAdd, Nat.reduceMul, Nat.reduceEqDiff, Nat.reduceLT, Nat.reduceLeDiff, Nat.reduceSub, Nat.reducePow, Nat.reduceBEq, Int.reduceToNat, List.reduceReplicate]
      refine AW.exit ?_
      rw [← hQl1]
      refine hK6 _ _ _ ?_; clear hK6
      refine AW.seq fun K13 hK13 => ?_
      refine AW.seq fun K14 hK14 => ?_
      -- region 11
      refine AW.regionK 0 (fun _ => none) [1, 5, 35] [1] ?_
      simp only [go_sem, reduceIte, reduceCtorEq, Nat.reduceAdd, Nat.reduceMul, Nat.reduceEqDiff, Nat.reduceLT, Nat.reduceLeDiff, Nat.reduceSub, Nat.reducePow, Nat.reduceBEq, Int.reduceToNat, List.reduceReplicate, hlw]
      repeat with_reducible refine cj ?_ ?_
      all_goals try first | omega
      refine hK14 _ _ _ ?_; clear hK14
      -- cond 4
      refine AW.cond rfl (by simp only [go_sem, reduceIte, reduceCtorEq, Nat.reduceAdd, Nat.reduceMul, Nat.reduceEqDiff, Nat.reduceLT, Nat.reduceLeDiff, Nat.reduceSub, Nat.reducePow, Nat.reduceBEq, Int.reduceToNat, List.reduceReplicate]) ?_ ?_
      · intro hb
        try simp only [hB, decide_eq_true_eq, decide_eq_false_iff_not] at hb
        refine AW.seq fun K15 hK15 => ?_
        -- region 12
        refine AW.regionK 0 (fun _ => none) [2, 3] [] ?_
        simp only [go_sem, reduceIte, reduceCtorEq, Nat.reduceAdd, Nat.reduceMul, Nat.reduceEqDiff, Nat.reduceLT, Nat.reduceLeDiff, Nat.reduceSub, Nat.reducePow, Nat.reduceBEq, Int.reduceToNat, List.reduceReplicate, hlw]
        repeat with_reducible refine cj ?_ ?_
        all_goals try first | omega
        refine hK15 _ _ _ ?_; clear hK15
        refine AW.ret ?_
        rw [← hQr]
        simp only [go_sem, reduceIte, reduceCtorEq, Nat.reduceAdd, Nat.reduceMul, Nat.reduceEqDiff, Nat.reduceLT, Nat.reduceLeDiff, Nat.reduceSub, Nat.reducePow, Nat.reduceBEq, Int.reduceToNat, List.reduceReplicate, hlw]
        exact Wk.tup2 (Wk.nil 1) (Wk.refl _)
      · intro hb
        try simp only [hB, decide_eq_true_eq, decide_eq_false_iff_not] at hb
        exfalso; omega
theorem cycle_c (n : Nat) (t : List (List Bool)) (hs : Sq n t) (hn : n ≤ 512) (f : Nat) (hf : firstC n t = some f) (r : CSt) (hr : cycB t n f (n + 2) 0 (cyc0 n f) = some r) :
    Reads Try.prog 31 false [relB t] (.tup [.rsl 1 (ints (outW t n f r.1 (r.2.2 - 1).toNat [(f : Int)])), .int .i64 ((0 : Nat) : Int)]) := by
  have h := valid_g n t hs hn
  have ha := closure_r n t hs hn
  have hsw := hs.warsh
  have hlw : (tabR (warsh n t)).length = n := by rw [tabR_len, hsw.len]
  have hlt : (tabR t).length = n := by rw [tabR_len, hs.len]
  have hh := fun j hj => rhas_r n (warsh n t) hsw hn j j hj hj
  have hh2 := fun i j hi hj => rhas_r n t hs hn i j hi hj
  obtain ⟨hfn, hf1, hf2⟩ := find_range_lt (p := fun i => atT (warsh n t) i i) hf
  have hrep := repeat_u (-1) n (by omega)
  have hone : [[AV.int .i64 (-1)]] = ints [-1] := rfl
  have honef : [[AV.int .i64 (f : Nat)]] = ints [(f : Int)] := rfl
  generalize warsh n t = c at *
  unfold relB at *
  refine Reads.body (rs := [.tmp 2, .tmp 3]) Try.func31 rfl Try.ntmps31 rfl (by simp) ?_
  generalize hQr : retQ _ _ _ = Qr
  refine AW.seq fun K1 hK1 => ?_
  -- region 0
  refine AW.regionK 0 (fun _ => none) [1] [1] ?_
  simp only [go_sem, reduceIte, reduceCtorEq, Nat.reduceAdd, Nat.reduceMul, Nat.reduceEqDiff, Nat.reduceLT, Nat.reduceLeDiff, Nat.reduceSub, Nat.reducePow, Nat.reduceBEq, Int.reduceToNat, List.reduceReplicate, hlw, hlt]
  repeat with_reducible refine cj ?_ ?_
  all_goals try first | omega
  refine hK1 _ _ _ ?_; clear hK1
  refine AW.seq fun K2 hK2 => ?_
  refine AW.seq fun K3 hK3 => ?_
  -- region 1
  refine AW.regionK 0 (fun ii => if ii = 1 then some (.reads false (.bool true)) else none) [1, 19] [1] ?_
  simp only [go_sem, reduceIte, reduceCtorEq, Nat.reduceAdd, Nat.reduceMul, Nat.reduceEqDiff, Nat.reduceLT, Nat.reduceLeDiff, Nat.reduceSub, Nat.reducePow, Nat.reduceBEq, Int.reduceToNat, List.reduceReplicate, hlw, hlt]
  repeat with_reducible refine cj ?_ ?_
  all_goals try first | (exact h) | omega | exact ent (by kernel_rfl)
  refine hK3 _ _ _ ?_; clear hK3
  -- cond 1
  refine AW.cond rfl (by simp only [go_sem, reduceIte, reduceCtorEq, Nat.reduceAdd, Nat.reduceMul, Nat.reduceEqDiff, Nat.reduceLT, Nat.reduceLeDiff, Nat.reduceSub, Nat.reducePow, Nat.reduceBEq, Int.reduceToNat, List.reduceReplicate]) ?_ ?_
  · intro hb
    try simp only [hB, decide_eq_true_eq, decide_eq_false_iff_not] at hb
    simp at hb
  · intro hb
    try simp only [hB, decide_eq_true_eq, decide_eq_false_iff_not] at hb
    refine AW.skip ?_
    refine hK2 _ _ _ ?_; clear hK2
    refine AW.seq fun K4 hK4 => ?_
    -- region 3
    refine AW.regionK 0 (fun ii => if ii = 1 then some (.reads true (.agg [.rsl 2 (tabR c)])) else none) [1, 4] [1, 4] ?_
    simp only [go_sem, reduceIte, reduceCtorEq, Nat.reduceAdd, Nat.reduceMul, Nat.reduceEqDiff, Nat.reduceLT, Nat.reduceLeDiff, Nat.reduceSub, Nat.reducePow, Nat.reduceBEq, Int.reduceToNat, List.reduceReplicate, hlw, hlt]
    repeat with_reducible refine cj ?_ ?_
    all_goals try first | (exact ha) | omega | exact ent (by kernel_rfl)
    refine hK4 _ _ _ ?_; clear hK4
    refine AW.seq fun K5 hK5 => ?_
    -- region 4
    refine AW.regionK 0 (fun _ => none) [1, 4, 5] [1, 4] ?_
    simp only [go_sem, reduceIte, reduceCtorEq, Nat.reduceAdd, Nat.reduceMul, Nat.reduceEqDiff, Nat.reduceLT, Nat.reduceLeDiff, Nat.reduceSub, Nat.reducePow, Nat.reduceBEq, Int.reduceToNat, List.reduceReplicate, hlw, hlt]
    repeat with_reducible refine cj ?_ ?_
    all_goals try first | omega
    refine hK5 _ _ _ ?_; clear hK5
    refine AW.seq fun K6 hK6 => ?_
    refine AW.seq fun K7 hK7 => ?_
    -- region 5
    refine AW.regionK 0 (fun _ => none) [1, 4, 5, 24, 25] [1, 4] ?_
    simp only [go_sem, reduceIte, reduceCtorEq, Nat.reduceAdd, Nat.reduceMul, Nat.reduceEqDiff, Nat.reduceLT, Nat.reduceLeDiff, Nat.reduceSub, Nat.reducePow, Nat.reduceBEq, Int.reduceToNat, List.reduceReplicate, hlw, hlt]
    repeat with_reducible refine cj ?_ ?_
    all_goals try first | omega
    refine hK7 _ _ _ ?_; clear hK7
    refine AW.block ?_
    -- loop 1
    refine AW.loopE (fun mm ee ss kk => ∃ (j q g1 v1 g4 v4 : Nat), q + 1 = mm ∧ ee = [(1, .ptr ⟨1, g1, none⟩ 0 0), (4, .ptr ⟨4, g4, none⟩ 0 0), (5, .int .i64 (-1)), (24, .int .i64 n), (25, .int .i64 (j : Nat))] ∧ ss = [(1, some ⟨g1, v1, 1, [[.rsl 2 (tabR t)]]⟩), (4, some ⟨g4, v4, 1, [[.rsl 2 (tabR c)]]⟩)] ∧ (j ≤ f ∧ q = n - j)) ?_ ?_
    · refine ⟨_, 0, n, ?_, ?_, ?_, ?_, rfl, ?henv, ?hstore, ?hst⟩
      case henv =>
        repeat' (first | rfl | refine env_cons ?_ ?_ | refine st_cons ?_ ?_ ?_ ?_ | refine int_eq ?_ | refine bool_eq ?_ | refine rsl_eq ?_ | refine osl_eq ?_ | refine sl_eq ?_ ?_ ?_ | refine ptr_eq ?_ ?_ ?_ | refine agg_eq ?_ | refine es_cons ?_ ?_ | refine row_cons ?_ ?_)
        all_goals (first | (simp; done) | omega | (simp; omega))
      case hstore =>
        repeat' (first | rfl | refine env_cons ?_ ?_ | refine st_cons ?_ ?_ ?_ ?_ | refine int_eq ?_ | refine bool_eq ?_ | refine rsl_eq ?_ | refine osl_eq ?_ | refine sl_eq ?_ ?_ ?_ | refine ptr_eq ?_ ?_ ?_ | refine agg_eq ?_ | refine es_cons ?_ ?_ | refine row_cons ?_ ?_)
        all_goals (first | (simp; done) | omega | (simp; omega))
      case hst =>
        exact ⟨Nat.zero_le _, by omega⟩
    rintro mm ee ss kk ⟨j, q, g1, v1, g4, v4, rfl, rfl, rfl, hI⟩
    generalize hQl1 : thenQ _ _ = Ql1
    obtain ⟨hj, hq⟩ := hI
    refine AW.seq fun K8 hK8 => ?_
    -- region 6
    refine AW.regionK 0 (fun _ => none) [1, 4, 5, 24, 25, 26] [1, 4] ?_
    simp only [go_sem, reduceIte, reduceCtorEq, Nat.reduceAdd, Nat.reduceMul, Nat.reduceEqDiff, Nat.reduceLT, Nat.reduceLeDiff, Nat.reduceSub, Nat.reducePow, Nat.reduceBEq, Int.reduceToNat, List.reduceReplicate, hlw, hlt]
    repeat with_reducible refine cj ?_ ?_
    all_goals try first | omega
    refine hK8 _ _ _ ?_; clear hK8
    refine AW.seq fun K9 hK9 => ?_
    -- cond 2
    refine AW.cond rfl (by simp only [go_sem, reduceIte, reduceCtorEq, Nat.reduceAdd, Nat.reduceMul, Nat.reduceEqDiff, Nat.reduceLT, Nat.reduceLeDiff, Nat.reduceSub, Nat.reducePow, Nat.reduceBEq, Int.reduceToNat, List.reduceReplicate]) ?_ ?_
    · intro hb
      try simp only [hB, decide_eq_true_eq, decide_eq_false_iff_not] at hb
      have hhj := hh j (by omega)
      refine AW.skip ?_
      refine hK9 _ _ _ ?_; clear hK9
      refine AW.seq fun K10 hK10 => ?_
      refine AW.block ?_
      refine AW.seq fun K11 hK11 => ?_
      -- region 7
      refine AW.regionK 0 (fun _ => none) [1, 4, 5, 6, 24, 25] [1, 4] ?_
      simp only [go_sem, reduceIte, reduceCtorEq, Nat.reduceAdd, Nat.reduceMul, Nat.reduceEqDiff, Nat.reduceLT, Nat.reduceLeDiff, Nat.reduceSub, Nat.reducePow, Nat.reduceBEq, Int.reduceToNat, List.reduceReplicate, hlw, hlt]
      repeat with_reducible refine cj ?_ ?_
      all_goals try first | omega
      refine hK11 _ _ _ ?_; clear hK11
      refine AW.seq fun K12 hK12 => ?_
      -- region 8
      refine AW.regionK 0 (fun ii => if ii = 3 then some (.reads false (.bool (atT c j j))) else none) [1, 4, 5, 6, 24, 25, 31] [1, 4] ?_
      simp only [go_sem, reduceIte, reduceCtorEq, Nat.reduceAdd, Nat.reduceMul, Nat.reduceEqDiff, Nat.reduceLT, Nat.reduceLeDiff, Nat.reduceSub, Nat.reducePow, Nat.reduceBEq, Int.reduceToNat, List.reduceReplicate, hlw, hlt]
      repeat with_reducible refine cj ?_ ?_
      all_goals try first | (exact hhj) | omega | exact ent (by kernel_rfl)
      refine hK12 _ _ _ ?_; clear hK12
      -- cond 3
      refine AW.cond rfl (by simp only [go_sem, reduceIte, reduceCtorEq, Nat.reduceAdd, Nat.reduceMul, Nat.reduceEqDiff, Nat.reduceLT, Nat.reduceLeDiff, Nat.reduceSub, Nat.reducePow, Nat.reduceBEq, Int.reduceToNat, List.reduceReplicate]) ?_ ?_
      · intro hb
        try simp only [hB, decide_eq_true_eq, decide_eq_false_iff_not] at hb
        have hjf : j = f := by
          rcases Nat.lt_or_ge j f with h1 | h1
          · have := hf2 j h1; rw [this] at hb; cases hb
          · omega
        subst hjf
        refine AW.seq fun K13 hK13 => ?_
        -- region 9
        refine AW.regionK 0 (fun _ => none) [1, 5] [1] ?_
        simp only [go_sem, reduceIte, reduceCtorEq, Nat.reduceAdd, Nat.reduceMul, Nat.reduceEqDiff, Nat.reduceLT, Nat.reduceLeDiff, Nat.reduceSub, Nat.reducePow, Nat.reduceBEq, Int.reduceToNat, List.reduceReplicate, hlw, hlt]
        repeat with_reducible refine cj ?_ ?_
        all_goals try first | omega
        refine hK13 _ _ _ ?_; clear hK13
        refine AW.exit ?_
        rw [← hQl1]
        refine hK6 _ _ _ ?_; clear hK6
        refine AW.seq fun K14 hK14 => ?_
        refine AW.seq fun K15 hK15 => ?_
        -- region 11
        refine AW.regionK 0 (fun _ => none) [1, 5, 35] [1] ?_
        simp only [go_sem, reduceIte, reduceCtorEq, Nat.reduceAdd, Nat.reduceMul, Nat.reduceEqDiff, Nat.reduceLT, Nat.reduceLeDiff, Nat.reduceSub, Nat.reducePow, Nat.reduceBEq, Int.reduceToNat, List.reduceReplicate, hlw, hlt]
        repeat with_reducible refine cj ?_ ?_
        all_goals try first | omega
        refine hK15 _ _ _ ?_; clear hK15
        -- cond 4
        refine AW.cond rfl (by simp only [go_sem, reduceIte, reduceCtorEq, Nat.reduceAdd, Nat.reduceMul, Nat.reduceEqDiff, Nat.reduceLT, Nat.reduceLeDiff, Nat.reduceSub, Nat.reducePow, Nat.reduceBEq, Int.reduceToNat, List.reduceReplicate]) ?_ ?_
        · intro hb
          try simp only [hB, decide_eq_true_eq, decide_eq_false_iff_not] at hb
          exfalso; omega
        · intro hb
          try simp only [hB, decide_eq_true_eq, decide_eq_false_iff_not] at hb
          refine AW.skip ?_
          refine hK14 _ _ _ ?_; clear hK14
          refine AW.seq fun K16 hK16 => ?_
          -- region 13
          refine AW.regionG 0 (fun ii => if ii = 4 then some (.upd [] (fun k => [(0, some ⟨k, k, 1, ints (List.replicate n (-1))⟩)]) (fun k => .sl ⟨0, k, none⟩ 0 n none)) else none) (fun ii => if ii = 4 then some ([36], [36]) else none) [1, 5, 7] [1, 40] ?_
          simp only [go_sem, reduceIte, reduceCtorEq, Nat.reduceAdd, Nat.reduceMul, Nat.reduceEqDiff, Nat.reduceLT, Nat.reduceLeDiff, Nat.reduceSub, Nat.reducePow, Nat.reduceBEq, Int.reduceToNat, List.reduceReplicate, hlw, hlt, hone]
          repeat with_reducible refine cj ?_ ?_
          all_goals try first | (exact hrep) | omega | exact ent (by kernel_rfl)
          refine hK16 _ _ _ ?_; clear hK16
          refine AW.seq fun K17 hK17 => ?_
          -- region 14
          refine AW.regionK 0 (fun _ => none) [1, 5, 7, 8] [1, 40, 42] ?_
          simp only [go_sem, reduceIte, reduceCtorEq, Nat.reduceAdd, Nat.reduceMul, Nat.reduceEqDiff, Nat.reduceLT, Nat.reduceLeDiff, Nat.reduceSub, Nat.reducePow, Nat.reduceBEq, Int.reduceToNat, List.reduceReplicate, hlw, hlt]
          repeat with_reducible refine cj ?_ ?_
          all_goals try first | omega
          refine hK17 _ _ _ ?_; clear hK17
          refine AW.seq fun K18 hK18 => ?_
          -- region 15
          refine AW.regionK 0 (fun _ => none) [1, 5, 7, 8, 9] [1, 40, 42] ?_
          simp only [go_sem, reduceIte, reduceCtorEq, Nat.reduceAdd, Nat.reduceMul, Nat.reduceEqDiff, Nat.reduceLT, Nat.reduceLeDiff, Nat.reduceSub, Nat.reducePow, Nat.reduceBEq, Int.reduceToNat, List.reduceReplicate, hlw, hlt]
          repeat with_reducible refine cj ?_ ?_
          all_goals try first | omega
          refine hK18 _ _ _ ?_; clear hK18
          refine AW.seq fun K19 hK19 => ?_
          refine AW.seq fun K20 hK20 => ?_
          -- region 16
          refine AW.regionK 0 (fun _ => none) [1, 5, 7, 8, 9, 10] [1, 40, 42] ?_
          simp only [go_sem, reduceIte, reduceCtorEq, Nat.reduceAdd, Nat.reduceMul, Nat.reduceEqDiff, Nat.reduceLT, Nat.reduceLeDiff, Nat.reduceSub, Nat.reducePow, Nat.reduceBEq, Int.reduceToNat, List.reduceReplicate, hlw, hlt]
          repeat with_reducible refine cj ?_ ?_
          all_goals try first | omega
          refine hK20 _ _ _ ?_; clear hK20
          refine AW.block ?_
          -- loop 2
          refine AW.loopE (fun mm ee ss kk => ∃ (m k g1 v1 g7 v7 g8 v8 : Nat) (st : CSt), m + 1 = mm ∧ ee = [(1, .ptr ⟨1, g1, none⟩ 0 0), (5, .int .i64 (j : Nat)), (7, .sl ⟨40, g7, none⟩ 0 n none), (8, .sl ⟨42, g8, none⟩ 0 st.2.1.length none), (9, .int .i64 st.2.2), (10, .int .i64 (k : Nat))] ∧ ss = [(1, some ⟨g1, v1, 1, [[.rsl 2 (tabR t)]]⟩), (40, some ⟨g7, v7, 1, ints st.1⟩), (42, some ⟨g8, v8, 1, ints st.2.1⟩)] ∧ (WfC n j st ∧ cycB t n j m k st = some r)) ?_ ?_
          · refine ⟨_, n + 2, 0, ?_, ?_, ?_, ?_, ?_, ?_, cyc0 n j, rfl, ?henv, ?hstore, ?hst⟩
            case henv =>
              repeat' (first | rfl | refine env_cons ?_ ?_ | refine st_cons ?_ ?_ ?_ ?_ | refine int_eq ?_ | refine bool_eq ?_ | refine rsl_eq ?_ | refine osl_eq ?_ | refine sl_eq ?_ ?_ ?_ | refine ptr_eq ?_ ?_ ?_ | refine agg_eq ?_ | refine es_cons ?_ ?_ | refine row_cons ?_ ?_)
              all_goals (first | (simp; done) | omega | (simp; omega))
            case hstore =>
              repeat' (first | rfl | refine env_cons ?_ ?_ | refine st_cons ?_ ?_ ?_ ?_ | refine int_eq ?_ | refine bool_eq ?_ | refine rsl_eq ?_ | refine osl_eq ?_ | refine sl_eq ?_ ?_ ?_ | refine ptr_eq ?_ ?_ ?_ | refine agg_eq ?_ | refine es_cons ?_ ?_ | refine row_cons ?_ ?_)
              all_goals (first | (simp; done) | omega | (simp; omega))
            case hst =>
              exact ⟨WfC.start (by omega) (by omega), hr⟩
          rintro mm ee ss kk ⟨m, k, g1, v1, g7, v7, g8, v8, st, rfl, rfl, rfl, hI⟩
          generalize hQl2 : thenQ _ _ = Ql2
          obtain ⟨hw, hcb⟩ := hI
          have hcnt := hw.cnt
          have hslen := hw.len
          refine AW.seq fun K21 hK21 => ?_
          refine AW.seq fun K22 hK22 => ?_
          -- region 17
          refine AW.regionK 0 (fun _ => none) [1, 5, 7, 8, 9, 10, 46] [1, 40, 42] ?_
          simp only [go_sem, reduceIte, reduceCtorEq, Nat.reduceAdd, Nat.reduceMul, Nat.reduceEqDiff, Nat.reduceLT, Nat.reduceLeDiff, Nat.reduceSub, Nat.reducePow, Nat.reduceBEq, Int.reduceToNat, List.reduceReplicate, hlw, hlt]
          repeat with_reducible refine cj ?_ ?_
          all_goals try first | omega
          refine hK22 _ _ _ ?_; clear hK22
          -- cond 5
          refine AW.cond rfl (by simp only [go_sem, reduceIte, reduceCtorEq, Nat.reduceAdd, Nat.reduceMul, Nat.reduceEqDiff, Nat.reduceLT, Nat.reduceLeDiff, Nat.reduceSub, Nat.reducePow, Nat.reduceBEq, Int.reduceToNat, List.reduceReplicate]) ?_ ?_
          · intro hb
            try simp only [hB, decide_eq_true_eq, decide_eq_false_iff_not] at hb
            obtain ⟨m, rfl⟩ : ∃ m', m = m' + 1 := by
              cases m with
              | zero => unfold cycB at hcb; rw [if_pos (by omega)] at hcb; cases hcb
              | succ m => exact ⟨m, rfl⟩
            unfold cycB at hcb
            rw [if_pos (by omega)] at hcb
            have hgk := ints_getD (l := st.2.1) (i := k) (by omega)
            have hvr := hw.rng _ (mem_getD (l := st.2.1) (i := k) (by omega) 0)
            have hgs := ints_getD (l := st.1) (i := (st.2.1.getD k 0).toNat) (by omega)
            have hka : cycAt k st = if 0 < k then st.1.getD (st.2.1.getD k 0).toNat 0 else 0 := rfl
            have hab := hw.at k
            have hck : cycK t n j k st = iter (cycI t j (cycAt k st) (st.2.1.getD k 0)) n st := rfl
            have hgv : st.2.1[k]? = some (st.2.1.getD k 0) := by rw [List.getElem?_eq_getElem (by omega)]; simp [List.getD_eq_getElem?_getD, show k < st.2.1.length by omega]
            have hwk := fun i hi => WfC.k' hw t (st.2.1.getD k 0) hab.1 hab.2 i hi
            generalize hv : st.2.1.getD k 0 = v at *
            refine AW.skip ?_
            refine hK21 _ _ _ ?_; clear hK21
            refine AW.seq fun K23 hK23 => ?_
            refine AW.block ?_
            refine AW.seq fun K24 hK24 => ?_
            -- region 19
            refine AW.regionK 0 (fun _ => none) [1, 5, 7, 8, 9, 10, 11] [1, 40, 42] ?_
            simp only [go_sem, reduceIte, reduceCtorEq, Nat.reduceAdd, Nat.reduceMul, Nat.reduceEqDiff, Nat.reduceLT, Nat.reduceLeDiff, Nat.reduceSub, Nat.reducePow, Nat.reduceBEq, Int.reduceToNat, List.reduceReplicate, hlw, hlt]
            repeat with_reducible refine cj ?_ ?_
            all_goals try first | omega
            refine hK24 _ _ _ ?_; clear hK24
            refine AW.seq fun K25 hK25 => ?_
            refine AW.seq fun K26 hK26 => ?_
            -- region 20
            refine AW.regionK 0 (fun _ => none) [1, 5, 7, 8, 9, 10, 11, 50] [1, 40, 42] ?_
            simp only [go_sem, reduceIte, reduceCtorEq, Nat.reduceAdd, Nat.reduceMul, Nat.reduceEqDiff, Nat.reduceLT, Nat.reduceLeDiff, Nat.reduceSub, Nat.reducePow, Nat.reduceBEq, Int.reduceToNat, List.reduceReplicate, hlw, hlt]
            repeat with_reducible refine cj ?_ ?_
            all_goals try first | omega
            refine hK26 _ _ _ ?_; clear hK26
            have hJ6 : ∀ (a : Int) (ha6 : a = cycAt k st) (kk : Nat), K25 [(1, .ptr ⟨1, g1, none⟩ 0 0), (5, .int .i64 (j : Nat)), (7, .sl ⟨40, g7, none⟩ 0 n none), (8, .sl ⟨42, g8, none⟩ 0 st.2.1.length none), (9, .int .i64 st.2.2), (10, .int .i64 (k : Nat)), (11, .int .i64 a)] [(1, some ⟨g1, v1, 1, [[.rsl 2 (tabR t)]]⟩), (40, some ⟨g7, v7, 1, ints st.1⟩), (42, some ⟨g8, v8, 1, ints st.2.1⟩)] kk := by
              intro a ha6 kk
              refine hK25 _ _ _ ?_; clear hK25
              rw [← ha6] at hab hck hwk
              refine AW.seq fun K40 hK40 => ?_
              -- region 22
              refine AW.regionK 0 (fun _ => none) [1, 5, 7, 8, 9, 10, 11, 60, 61] [1, 40, 42] ?_
              simp only [go_sem, reduceIte, reduceCtorEq, Nat.reduceAdd, Nat.reduceMul, Nat.reduceEqDiff, Nat.reduceLT, Nat.reduceLeDiff, Nat.reduceSub, Nat.reducePow, Nat.reduceBEq, Int.reduceToNat, List.reduceReplicate, hlw, hlt]
              repeat with_reducible refine cj ?_ ?_
              all_goals try first | omega
              refine hK40 _ _ _ ?_; clear hK40
              refine AW.block ?_
              -- loop 3
              refine AW.loopE (fun mm ee ss kk => ∃ (i g1 v1 g7 v7 g8 v8 : Nat) (su : CSt), n - i = mm ∧ ee = [(1, .ptr ⟨1, g1, none⟩ 0 0), (5, .int .i64 (j : Nat)), (7, .sl ⟨40, g7, none⟩ 0 n none), (8, .sl ⟨42, g8, none⟩ 0 su.2.1.length none), (9, .int .i64 su.2.2), (10, .int .i64 (k : Nat)), (11, .int .i64 a), (60, .int .i64 n), (61, .int .i64 (i : Nat))] ∧ ss = [(1, some ⟨g1, v1, 1, [[.rsl 2 (tabR t)]]⟩), (40, some ⟨g7, v7, 1, ints su.1⟩), (42, some ⟨g8, v8, 1, ints su.2.1⟩)] ∧ (i ≤ n ∧ su = iter (cycI t j a v) i st)) ?_ ?_
              · refine ⟨_, 0, ?_, ?_, ?_, ?_, ?_, ?_, st, rfl, ?henv, ?hstore, ?hst⟩
                case henv =>
                  repeat' (first | rfl | refine env_cons ?_ ?_ | refine st_cons ?_ ?_ ?_ ?_ | refine int_eq ?_ | refine bool_eq ?_ | refine rsl_eq ?_ | refine osl_eq ?_ | refine sl_eq ?_ ?_ ?_ | refine ptr_eq ?_ ?_ ?_ | refine agg_eq ?_ | refine es_cons ?_ ?_ | refine row_cons ?_ ?_)
                  all_goals (first | (simp; done) | omega | (simp; omega))
                case hstore =>
                  repeat' (first | rfl | refine env_cons ?_ ?_ | refine st_cons ?_ ?_ ?_ ?_ | refine int_eq ?_ | refine bool_eq ?_ | refine rsl_eq ?_ | refine osl_eq ?_ | refine sl_eq ?_ ?_ ?_ | refine ptr_eq ?_ ?_ ?_ | refine agg_eq ?_ | refine es_cons ?_ ?_ | refine row_cons ?_ ?_)
                  all_goals (first | (simp; done) | omega | (simp; omega))
                case hst =>
                  exact ⟨Nat.zero_le _, rfl⟩
              rintro mm ee ss kk ⟨i, g1, v1, g7, v7, g8, v8, su, rfl, rfl, rfl, hI⟩
              generalize hQl3 : thenQ _ _ = Ql3
              obtain ⟨hi, hsu⟩ := hI
              obtain ⟨hwu, hlu, hgu⟩ := hwk i hi
              rw [← hsu] at hwu hlu hgu
              have hgu := hgu k v hgv
              have hulen := hwu.len
              have hucnt := hwu.cnt
              have huln := hwu.ln
              refine AW.seq fun K41 hK41 => ?_
              -- region 23
              refine AW.regionK 0 (fun _ => none) [1, 5, 7, 8, 9, 10, 11, 60, 61, 62] [1, 40, 42] ?_
              simp only [go_sem, reduceIte, reduceCtorEq, Nat.reduceAdd, Nat.reduceMul, Nat.reduceEqDiff, Nat.reduceLT, Nat.reduceLeDiff, Nat.reduceSub, Nat.reducePow, Nat.reduceBEq, Int.reduceToNat, List.reduceReplicate, hlw, hlt]
              repeat with_reducible refine cj ?_ ?_
              all_goals try first | omega
              refine hK41 _ _ _ ?_; clear hK41
              refine AW.seq fun K42 hK42 => ?_
              -- cond 7
              refine AW.cond rfl (by simp only [go_sem, reduceIte, reduceCtorEq, Nat.reduceAdd, Nat.reduceMul, Nat.reduceEqDiff, Nat.reduceLT, Nat.reduceLeDiff, Nat.reduceSub, Nat.reducePow, Nat.reduceBEq, Int.reduceToNat, List.reduceReplicate]) ?_ ?_
              · intro hb
                try simp only [hB, decide_eq_true_eq, decide_eq_false_iff_not] at hb
                have hgk2 := ints_get hgu
                have hku := (List.getElem?_eq_some_iff.1 hgu).1
                have hhr := hh2 i v.toNat (by omega) (by omega)
                rw [Int.toNat_of_nonneg hvr.1] at hhr
                have hgi := ints_getD (l := su.1) (i := i) (by omega)
                have hus : iter (cycI t j a v) (i + 1) st = cycI t j a v i su := by rw [iter_succ, ← hsu]
                rw [cycI_eq] at hus
                have htk : (ints su.2.1).take su.2.1.length = ints su.2.1 := List.take_of_length_le (by rw [ints_len]; exact Nat.le_refl _)
                have hval := hwu.vals i
                refine AW.skip ?_
                refine hK42 _ _ _ ?_; clear hK42
                refine AW.seq fun K43 hK43 => ?_
                refine AW.block ?_
                refine AW.seq fun K44 hK44 => ?_
                -- region 24
                refine AW.regionK 0 (fun _ => none) [1, 5, 7, 8, 9, 10, 11, 12, 60, 61] [1, 40, 42] ?_
                simp only [go_sem, reduceIte, reduceCtorEq, Nat.reduceAdd, Nat.reduceMul, Nat.reduceEqDiff, Nat.reduceLT, Nat.reduceLeDiff, Nat.reduceSub, Nat.reducePow, Nat.reduceBEq, Int.reduceToNat, List.reduceReplicate, hlw, hlt]
                repeat with_reducible refine cj ?_ ?_
                all_goals try first | omega
                refine hK44 _ _ _ ?_; clear hK44
                refine AW.seq fun K45 hK45 => ?_
                refine AW.seq fun K46 hK46 => ?_
                -- region 25
                refine AW.regionD mixed 0 (fun ii => if ii = 6 then some (.reads false (.bool (atT t i v.toNat))) else none) [1, 5, 7, 8, 9, 10, 11, 12, 60, 61, 71] [1, 40, 42] ?_
                simp only [go_sem, reduceIte, reduceCtorEq, Nat.reduceAdd, Nat.reduceMul, Nat.reduceEqDiff, Nat.reduceLT, Nat.reduceLeDiff, Nat.reduceSub, Nat.reducePow, Nat.reduceBEq, Int.reduceToNat, List.reduceReplicate, hlw, hlt, hgk2]
                repeat with_reducible refine cj ?_ ?_
                all_goals try first | (exact hhr) | omega | exact chk (by kernel_rfl) | exact ent (by kernel_rfl)
                refine hK46 _ _ _ ?_; clear hK46
                -- cond 8
                refine AW.cond rfl (by simp only [go_sem, reduceIte, reduceCtorEq, Nat.reduceAdd, Nat.reduceMul, Nat.reduceEqDiff, Nat.reduceLT, Nat.reduceLeDiff, Nat.reduceSub, Nat.reducePow, Nat.reduceBEq, Int.reduceToNat, List.reduceReplicate]) ?_ ?_
                · intro hb
                  try simp only [hB, decide_eq_true_eq, decide_eq_false_iff_not] at hb
                  rw [if_neg (by rw [hb]; simp)] at hus
                  refine AW.exit ?_
                  refine hK43 _ _ _ ?_; clear hK43
                  -- region 31
                  refine AW.regionK 0 (fun _ => none) [1, 5, 7, 8, 9, 10, 11, 60, 61] [1, 40, 42] ?_
                  simp only [go_sem, reduceIte, reduceCtorEq, Nat.reduceAdd, Nat.reduceMul, Nat.reduceEqDiff, Nat.reduceLT, Nat.reduceLeDiff, Nat.reduceSub, Nat.reducePow, Nat.reduceBEq, Int.reduceToNat, List.reduceReplicate, hlw, hlt]
                  repeat with_reducible refine cj ?_ ?_
                  all_goals try first | omega
                  rw [← hQl3]
                  change Exists _
                  refine ⟨_, ?hm, i + 1, ?_, ?_, ?_, ?_, ?_, ?_, iter (cycI t j a v) (i + 1) st, rfl, ?henv, ?hstore, ?hst⟩
                  case henv =>
                    repeat' (first | rfl | refine env_cons ?_ ?_ | refine st_cons ?_ ?_ ?_ ?_ | refine int_eq ?_ | refine bool_eq ?_ | refine rsl_eq ?_ | refine osl_eq ?_ | refine sl_eq ?_ ?_ ?_ | refine ptr_eq ?_ ?_ ?_ | refine agg_eq ?_ | refine es_cons ?_ ?_ | refine row_cons ?_ ?_)
                    all_goals (rw [hus]; try simp)
                  case hstore =>
                    repeat' (first | rfl | refine env_cons ?_ ?_ | refine st_cons ?_ ?_ ?_ ?_ | refine int_eq ?_ | refine bool_eq ?_ | refine rsl_eq ?_ | refine osl_eq ?_ | refine sl_eq ?_ ?_ ?_ | refine ptr_eq ?_ ?_ ?_ | refine agg_eq ?_ | refine es_cons ?_ ?_ | refine row_cons ?_ ?_)
                    all_goals (rw [hus])
                  case hst =>
                    exact ⟨by omega, rfl⟩
                  case hm => omega
                · intro hb
                  try simp only [hB, decide_eq_true_eq, decide_eq_false_iff_not] at hb
                  rw [if_pos hb] at hus
                  refine AW.skip ?_
                  refine hK45 _ _ _ ?_; clear hK45
                  refine AW.seq fun K47 hK47 => ?_
                  refine AW.seq fun K48 hK48 => ?_
                  -- region 26
                  refine AW.regionK 0 (fun _ => none) [1, 5, 7, 8, 9, 10, 11, 12, 60, 61, 78] [1, 40, 42] ?_
                  simp only [go_sem, reduceIte, reduceCtorEq, Nat.reduceAdd, Nat.reduceMul, Nat.reduceEqDiff, Nat.reduceLT, Nat.reduceLeDiff, Nat.reduceSub, Nat.reducePow, Nat.reduceBEq, Int.reduceToNat, List.reduceReplicate, hlw, hlt]
                  repeat with_reducible refine cj ?_ ?_
                  all_goals try first | omega | (intros; (repeat' apply And.intro) <;> first | assumption | omega | decide) | (intro hgd; exact absurd hgd (by decide)) | rfl | (simp only [go_sem, reduceIte, reduceCtorEq, Nat.reduceAdd, Nat.reduceMul, Nat.reduceEqDiff, Nat.reduceLT, Nat.reduceLeDiff, Nat.reduceSub, Nat.reducePow, Nat.reduceBEq, Int.reduceToNat, List.reduceReplicate, hlw, hlt]; done) | (intro _hgd; simp_all [go_sem]; done)
                  refine hK48 _ _ _ ?_; clear hK48
                  have hJ9 : ∀ (b9 : Int) (hb9 : b9 = if (i : Int) = (j : Int) ∧ su.2.2 = 0 then a + 1 else su.2.2) (kk : Nat), K47 [(1, .ptr ⟨1, g1, none⟩ 0 0), (5, .int .i64 (j : Nat)), (7, .sl ⟨40, g7, none⟩ 0 n none), (8, .sl ⟨42, g8, none⟩ 0 su.2.1.length none), (9, .int .i64 b9), (10, .int .i64 (k : Nat)), (11, .int .i64 a), (12, .int .i64 (i : Nat)), (60, .int .i64 n), (61, .int .i64 (i : Nat))] [(1, some ⟨g1, v1, 1, [[.rsl 2 (tabR t)]]⟩), (40, some ⟨g7, v7, 1, ints su.1⟩), (42, some ⟨g8, v8, 1, ints su.2.1⟩)] kk := by
                    intro b9 hb9 kk
                    refine hK47 _ _ _ ?_; clear hK47
                    rw [← hb9] at hus
                    have hb9r : 0 ≤ b9 ∧ b9 ≤ 2000 := by rw [hb9]; split <;> omega
                    refine AW.seq fun K51 hK51 => ?_
                    -- region 28
                    refine AW.regionK 0 (fun _ => none) [1, 5, 7, 8, 9, 10, 11, 12, 60, 61, 90] [1, 40, 42] ?_
                    simp only [go_sem, reduceIte, reduceCtorEq, Nat.reduceAdd, Nat.reduceMul, Nat.reduceEqDiff, Nat.reduceLT, Nat.reduceLeDiff, Nat.reduceSub, Nat.reducePow, Nat.reduceBEq, Int.reduceToNat, List.reduceReplicate, hlw, hlt, hgi]
                    repeat with_reducible refine cj ?_ ?_
                    all_goals try first | omega | (intros; (repeat' apply And.intro) <;> first | assumption | omega | decide) | (intro hgd; exact absurd hgd (by decide)) | rfl | (simp only [go_sem, reduceIte, reduceCtorEq, Nat.reduceAdd, Nat.reduceMul, Nat.reduceEqDiff, Nat.reduceLT, Nat.reduceLeDiff, Nat.reduceSub, Nat.reducePow, Nat.reduceBEq, Int.reduceToNat, List.reduceReplicate, hlw, hlt, hgi]; done) | (intro _hgd; simp_all [go_sem]; done)
                    refine hK51 _ _ _ ?_; clear hK51
                    -- cond 10
                    refine AW.cond rfl (by simp only [go_sem, reduceIte, reduceCtorEq, Nat.reduceAdd, Nat.reduceMul, Nat.reduceEqDiff, Nat.reduceLT, Nat.reduceLeDiff, Nat.reduceSub, Nat.reducePow, Nat.reduceBEq, Int.reduceToNat, List.reduceReplicate]) ?_ ?_
                    · intro hb
                      try simp only [hB, decide_eq_true_eq, decide_eq_false_iff_not] at hb
                      rw [if_pos (by omega)] at hus
                      refine AW.seq fun K52 hK52 => ?_
                      -- region 29
                      refine AW.regionK 0 (fun _ => none) [1, 5, 7, 8, 9, 10, 11, 12, 60, 61] [1, 40, 42] ?_
                      simp only [go_sem, reduceIte, reduceCtorEq, Nat.reduceAdd, Nat.reduceMul, Nat.reduceEqDiff, Nat.reduceLT, Nat.reduceLeDiff, Nat.reduceSub, Nat.reducePow, Nat.reduceBEq, Int.reduceToNat, List.reduceReplicate, hlw, hlt]
                      repeat with_reducible refine cj ?_ ?_
                      all_goals try first | omega
                      refine hK52 _ _ _ ?_; clear hK52
                      -- region 30
                      refine AW.regionK 0 (fun _ => none) [1, 5, 7, 8, 9, 10, 11, 60, 61] [1, 40, 42] ?_
                      simp only [go_sem, reduceIte, reduceCtorEq, Nat.reduceAdd, Nat.reduceMul, Nat.reduceEqDiff, Nat.reduceLT, Nat.reduceLeDiff, Nat.reduceSub, Nat.reducePow, Nat.reduceBEq, Int.reduceToNat, List.reduceReplicate, hlw, hlt, htk, ints_app]
                      repeat with_reducible refine cj ?_ ?_
                      all_goals try first | omega | (simp [scP, scalar]; done) | exact scP_words _ | exact scP_ints _ | exact scP_bools _
                      refine hK43 _ _ _ ?_; clear hK43
                      -- region 31
                      refine AW.regionK 0 (fun _ => none) [1, 5, 7, 8, 9, 10, 11, 60, 61] [1, 40, 42] ?_
                      simp only [go_sem, reduceIte, reduceCtorEq, Nat.reduceAdd, Nat.reduceMul, Nat.reduceEqDiff, Nat.reduceLT, Nat.reduceLeDiff, Nat.reduceSub, Nat.reducePow, Nat.reduceBEq, Int.reduceToNat, List.reduceReplicate, hlw, hlt]
                      repeat with_reducible refine cj ?_ ?_
                      all_goals try first | omega
                      rw [← hQl3]
                      change Exists _
                      refine ⟨_, ?hm, i + 1, ?_, ?_, ?_, ?_, ?_, ?_, iter (cycI t j a v) (i + 1) st, rfl, ?henv, ?hstore, ?hst⟩
                      case henv =>
                        repeat' (first | rfl | refine env_cons ?_ ?_ | refine st_cons ?_ ?_ ?_ ?_ | refine int_eq ?_ | refine bool_eq ?_ | refine rsl_eq ?_ | refine osl_eq ?_ | refine sl_eq ?_ ?_ ?_ | refine ptr_eq ?_ ?_ ?_ | refine agg_eq ?_ | refine es_cons ?_ ?_ | refine row_cons ?_ ?_)
                        all_goals (rw [hus]; try simp)
                      case hstore =>
                        repeat' (first | rfl | refine env_cons ?_ ?_ | refine st_cons ?_ ?_ ?_ ?_ | refine int_eq ?_ | refine bool_eq ?_ | refine rsl_eq ?_ | refine osl_eq ?_ | refine sl_eq ?_ ?_ ?_ | refine ptr_eq ?_ ?_ ?_ | refine agg_eq ?_ | refine es_cons ?_ ?_ | refine row_cons ?_ ?_)
                        all_goals (rw [hus])
                      case hst =>
                        exact ⟨by omega, rfl⟩
                      case hm => omega
                    · intro hb
                      try simp only [hB, decide_eq_true_eq, decide_eq_false_iff_not] at hb
                      rw [if_neg (by omega)] at hus
                      refine AW.skip ?_
                      refine hK43 _ _ _ ?_; clear hK43
                      -- region 31
                      refine AW.regionK 0 (fun _ => none) [1, 5, 7, 8, 9, 10, 11, 60, 61] [1, 40, 42] ?_
                      simp only [go_sem, reduceIte, reduceCtorEq, Nat.reduceAdd, Nat.reduceMul, Nat.reduceEqDiff, Nat.reduceLT, Nat.reduceLeDiff, Nat.reduceSub, Nat.reducePow, Nat.reduceBEq, Int.reduceToNat, List.reduceReplicate, hlw, hlt]
                      repeat with_reducible refine cj ?_ ?_
                      all_goals try first | omega
                      rw [← hQl3]
                      change Exists _
                      refine ⟨_, ?hm, i + 1, ?_, ?_, ?_, ?_, ?_, ?_, iter (cycI t j a v) (i + 1) st, rfl, ?henv, ?hstore, ?hst⟩
                      case henv =>
                        repeat' (first | rfl | refine env_cons ?_ ?_ | refine st_cons ?_ ?_ ?_ ?_ | refine int_eq ?_ | refine bool_eq ?_ | refine rsl_eq ?_ | refine osl_eq ?_ | refine sl_eq ?_ ?_ ?_ | refine ptr_eq ?_ ?_ ?_ | refine agg_eq ?_ | refine es_cons ?_ ?_ | refine row_cons ?_ ?_)
                        all_goals (rw [hus]; try simp)
                      case hstore =>
                        repeat' (first | rfl | refine env_cons ?_ ?_ | refine st_cons ?_ ?_ ?_ ?_ | refine int_eq ?_ | refine bool_eq ?_ | refine rsl_eq ?_ | refine osl_eq ?_ | refine sl_eq ?_ ?_ ?_ | refine ptr_eq ?_ ?_ ?_ | refine agg_eq ?_ | refine es_cons ?_ ?_ | refine row_cons ?_ ?_)
                        all_goals (rw [hus])
                      case hst =>
                        exact ⟨by omega, rfl⟩
                      case hm => omega
                  -- cond 9
                  refine AW.cond rfl (by simp only [go_sem, reduceIte, reduceCtorEq, Nat.reduceAdd, Nat.reduceMul, Nat.reduceEqDiff, Nat.reduceLT, Nat.reduceLeDiff, Nat.reduceSub, Nat.reducePow, Nat.reduceBEq, Int.reduceToNat, List.reduceReplicate]) ?_ ?_
                  · intro hb
                    try simp only [hB, decide_eq_true_eq, decide_eq_false_iff_not] at hb
                    -- region 27
                    refine AW.regionK 0 (fun _ => none) [1, 5, 7, 8, 9, 10, 11, 12, 60, 61] [1, 40, 42] ?_
                    simp only [go_sem, reduceIte, reduceCtorEq, Nat.reduceAdd, Nat.reduceMul, Nat.reduceEqDiff, Nat.reduceLT, Nat.reduceLeDiff, Nat.reduceSub, Nat.reducePow, Nat.reduceBEq, Int.reduceToNat, List.reduceReplicate, hlw, hlt]
                    repeat with_reducible refine cj ?_ ?_
                    all_goals try first | omega
                    first | exact hJ9 _ (if_pos hb).symm _ | exact hJ9 _ (if_neg (show ¬ ((i : Int) = (j : Int) ∧ su.2.2 = 0) by omega)).symm _
                  · intro hb
                    try simp only [hB, decide_eq_true_eq, decide_eq_false_iff_not] at hb
                    refine AW.keep [1, 5, 7, 8, 9, 10, 11, 12, 60, 61] [1, 40, 42] ?_
                    try simp only [go_sem, reduceIte, reduceCtorEq, Nat.reduceAdd, Nat.reduceMul, Nat.reduceEqDiff, Nat.reduceLT, Nat.reduceLeDiff, Nat.reduceSub, Nat.reducePow, Nat.reduceBEq, Int.reduceToNat, List.reduceReplicate]
                    refine AW.skip ?_
                    first | exact hJ9 _ (if_pos hb).symm _ | exact hJ9 _ (if_neg (show ¬ ((i : Int) = (j : Int) ∧ su.2.2 = 0) by omega)).symm _
              · intro hb
                try simp only [hB, decide_eq_true_eq, decide_eq_false_iff_not] at hb
                have hin : i = n := by omega
                subst hin
                rw [← hck] at hsu
                subst hsu
                refine AW.exit ?_
                rw [← hQl3]
                refine hK23 _ _ _ ?_; clear hK23
                -- region 18
                refine AW.regionK 0 (fun _ => none) [1, 5, 7, 8, 9, 10] [1, 40, 42] ?_
                simp only [go_sem, reduceIte, reduceCtorEq, Nat.reduceAdd, Nat.reduceMul, Nat.reduceEqDiff, Nat.reduceLT, Nat.reduceLeDiff, Nat.reduceSub, Nat.reducePow, Nat.reduceBEq, Int.reduceToNat, List.reduceReplicate, hlw, hlt]
                repeat with_reducible refine cj ?_ ?_
                all_goals try first | omega
                rw [← hQl2]
                change Exists _
                refine ⟨_, ?hm, m, k + 1, ?_, ?_, ?_, ?_, ?_, ?_, cycK t i j k st, rfl, ?henv, ?hstore, ?hst⟩
                case henv =>
                  repeat' (first | rfl | refine env_cons ?_ ?_ | refine st_cons ?_ ?_ ?_ ?_ | refine int_eq ?_ | refine bool_eq ?_ | refine rsl_eq ?_ | refine osl_eq ?_ | refine sl_eq ?_ ?_ ?_ | refine ptr_eq ?_ ?_ ?_ | refine agg_eq ?_ | refine es_cons ?_ ?_ | refine row_cons ?_ ?_)
                  all_goals (first | (simp; done) | omega | (simp; omega))
                case hstore =>
                  repeat' (first | rfl | refine env_cons ?_ ?_ | refine st_cons ?_ ?_ ?_ ?_ | refine int_eq ?_ | refine bool_eq ?_ | refine rsl_eq ?_ | refine osl_eq ?_ | refine sl_eq ?_ ?_ ?_ | refine ptr_eq ?_ ?_ ?_ | refine agg_eq ?_ | refine es_cons ?_ ?_ | refine row_cons ?_ ?_)
                  all_goals (first | (simp; done) | omega | (simp; omega))
                case hst =>
                  exact ⟨hwu, hcb⟩
                case hm => omega
            -- cond 6
            refine AW.cond rfl (by simp only [go_sem, reduceIte, reduceCtorEq, Nat.reduceAdd, Nat.reduceMul, Nat.reduceEqDiff, Nat.reduceLT, Nat.reduceLeDiff, Nat.reduceSub, Nat.reducePow, Nat.reduceBEq, Int.reduceToNat, List.reduceReplicate]) ?_ ?_
            · intro hb
              try simp only [hB, decide_eq_true_eq, decide_eq_false_iff_not] at hb
              rw [if_pos (by omega)] at hka
              -- region 21
              refine AW.regionK 0 (fun _ => none) [1, 5, 7, 8, 9, 10, 11] [1, 40, 42] ?_
              simp only [go_sem, reduceIte, reduceCtorEq, Nat.reduceAdd, Nat.reduceMul, Nat.reduceEqDiff, Nat.reduceLT, Nat.reduceLeDiff, Nat.reduceSub, Nat.reducePow, Nat.reduceBEq, Int.reduceToNat, List.reduceReplicate, hlw, hlt, hgk, hgs]
              repeat with_reducible refine cj ?_ ?_
              all_goals try first | omega
              exact hJ6 _ hka.symm _
            · intro hb
              try simp only [hB, decide_eq_true_eq, decide_eq_false_iff_not] at hb
              rw [if_neg (by omega)] at hka
              refine AW.keep [1, 5, 7, 8, 9, 10, 11] [1, 40, 42] ?_
              try simp only [go_sem, reduceIte, reduceCtorEq, Nat.reduceAdd, Nat.reduceMul, Nat.reduceEqDiff, Nat.reduceLT, Nat.reduceLeDiff, Nat.reduceSub, Nat.reducePow, Nat.reduceBEq, Int.reduceToNat, List.reduceReplicate]
              refine AW.skip ?_
              exact hJ6 _ hka.symm _
          · intro hb
            try simp only [hB, decide_eq_true_eq, decide_eq_false_iff_not] at hb
            have hst : st = r := by
              cases m <;> (unfold cycB at hcb; rw [if_neg (by omega)] at hcb; exact Option.some.inj hcb)
            subst hst
            have hln := hw.ln
            have hrr : outW t n j st.1 (st.2.2 - 1).toNat [(j : Int)] = outW t n j st.1 (st.2.2 - 1).toNat [(j : Int)] := rfl
            obtain ⟨res, hres⟩ : ∃ res, res = outW t n j st.1 (st.2.2 - 1).toNat [(j : Int)] := ⟨_, rfl⟩
            refine AW.exit ?_
            rw [← hQl2]
            refine hK19 _ _ _ ?_; clear hK19
            refine AW.seq fun K53 hK53 => ?_
            -- region 32
            refine AW.regionK 0 (fun _ => none) [1, 5, 7, 9, 13] [1, 40, 102] ?_
            simp only [go_sem, reduceIte, reduceCtorEq, Nat.reduceAdd, Nat.reduceMul, Nat.reduceEqDiff, Nat.reduceLT, Nat.reduceLeDiff, Nat.reduceSub, Nat.reducePow, Nat.reduceBEq, Int.reduceToNat, List.reduceReplicate, hlw, hlt, honef]
            repeat with_reducible refine cj ?_ ?_
            all_goals try first | omega
            refine hK53 _ _ _ ?_; clear hK53
            refine AW.seq fun K54 hK54 => ?_
            refine AW.seq fun K55 hK55 => ?_
            -- region 33
            refine AW.regionK 0 (fun _ => none) [1, 5, 7, 13, 14] [1, 40, 102] ?_
            simp only [go_sem, reduceIte, reduceCtorEq, Nat.reduceAdd, Nat.reduceMul, Nat.reduceEqDiff, Nat.reduceLT, Nat.reduceLeDiff, Nat.reduceSub, Nat.reducePow, Nat.reduceBEq, Int.reduceToNat, List.reduceReplicate, hlw, hlt]
            repeat with_reducible refine cj ?_ ?_
            all_goals try first | omega
            refine hK55 _ _ _ ?_; clear hK55
            refine AW.block ?_
            -- loop 4
            refine AW.loopE (fun mm ee ss kk => ∃ (m g1 v1 g7 v7 g13 v13 : Nat) (L : Int) (O : List Int), m + 1 = mm ∧ ee = [(1, .ptr ⟨1, g1, none⟩ 0 0), (5, .int .i64 (j : Nat)), (7, .sl ⟨40, g7, none⟩ 0 n none), (13, .sl ⟨102, g13, none⟩ 0 O.length none), (14, .int .i64 L)] ∧ ss = [(1, some ⟨g1, v1, 1, [[.rsl 2 (tabR t)]]⟩), (40, some ⟨g7, v7, 1, ints st.1⟩), (102, some ⟨g13, v13, 1, ints O⟩)] ∧ (m = L.toNat ∧ outW t n j st.1 m O = res ∧ 0 < O.length ∧ O.length + m ≤ 1000 ∧ (∀ x ∈ O, 0 ≤ x ∧ x < n) ∧ -1 ≤ L)) ?_ ?_
            · refine ⟨_, (st.2.2 - 1).toNat, ?_, ?_, ?_, ?_, ?_, ?_, st.2.2 - 1, [(j : Int)], rfl, ?henv, ?hstore, ?hst⟩
              case henv =>
                repeat' (first | rfl | refine env_cons ?_ ?_ | refine st_cons ?_ ?_ ?_ ?_ | refine int_eq ?_ | refine bool_eq ?_ | refine rsl_eq ?_ | refine osl_eq ?_ | refine sl_eq ?_ ?_ ?_ | refine ptr_eq ?_ ?_ ?_ | refine agg_eq ?_ | refine es_cons ?_ ?_ | refine row_cons ?_ ?_)
                all_goals (first | (simp; done) | omega | (simp; omega))
              case hstore =>
                repeat' (first | rfl | refine env_cons ?_ ?_ | refine st_cons ?_ ?_ ?_ ?_ | refine int_eq ?_ | refine bool_eq ?_ | refine rsl_eq ?_ | refine osl_eq ?_ | refine sl_eq ?_ ?_ ?_ | refine ptr_eq ?_ ?_ ?_ | refine agg_eq ?_ | refine es_cons ?_ ?_ | refine row_cons ?_ ?_)
                all_goals (first | (simp; done) | omega | (simp; omega))
              case hst =>
                exact ⟨rfl, hres.symm, by simp, by simp; omega, by intro x hx; simp at hx; subst hx; omega, by omega⟩
            rintro mm ee ss kk ⟨m, g1, v1, g7, v7, g13, v13, L, O, rfl, rfl, rfl, hI⟩
            generalize hQl4 : thenQ _ _ = Ql4
            obtain ⟨hmL, hout, hO0, hO1, hO2, hL0⟩ := hI
            refine AW.seq fun K56 hK56 => ?_
            refine AW.seq fun K57 hK57 => ?_
            -- region 34
            refine AW.regionK 0 (fun _ => none) [1, 5, 7, 13, 14, 106] [1, 40, 102] ?_
            simp only [go_sem, reduceIte, reduceCtorEq, Nat.reduceAdd, Nat.reduceMul, Nat.reduceEqDiff, Nat.reduceLT, Nat.reduceLeDiff, Nat.reduceSub, Nat.reducePow, Nat.reduceBEq, Int.reduceToNat, List.reduceReplicate, hlw, hlt]
            repeat with_reducible refine cj ?_ ?_
            all_goals try first | omega
            refine hK57 _ _ _ ?_; clear hK57
            -- cond 11
            refine AW.cond rfl (by simp only [go_sem, reduceIte, reduceCtorEq, Nat.reduceAdd, Nat.reduceMul, Nat.reduceEqDiff, Nat.reduceLT, Nat.reduceLeDiff, Nat.reduceSub, Nat.reducePow, Nat.reduceBEq, Int.reduceToNat, List.reduceReplicate]) ?_ ?_
            · intro hb
              try simp only [hB, decide_eq_true_eq, decide_eq_false_iff_not] at hb
              obtain ⟨m, rfl⟩ : ∃ m', m = m' + 1 := ⟨m - 1, by omega⟩
              have hLm : L = (m + 1 : Nat) := by omega
              have hlo : lastO O = O.getD (O.length - 1) 0 := rfl
              have hgl := ints_getD (l := O) (i := O.length - 1) (by omega)
              have hlt2 : ((O.length : Int) - 1).toNat = O.length - 1 := by omega
              have hlr := hO2 _ (mem_getD (l := O) (i := O.length - 1) (by omega) 0)
              rw [← hlo] at hgl hlr
              have hou : outW t n j st.1 (m + 1) O = outW t n j st.1 m (match stepO t n j st.1 (lastO O) (m + 1 : Nat) with
                  | some j => O ++ [(j : Int)]
                  | none => O) := rfl
              have hso : stepO t n j st.1 (lastO O) (m + 1 : Nat) = (List.range n).find? fun q => atT t (lastO O).toNat q && decide ((q : Int) ≠ j) && decide (st.1.getD q 0 = (m + 1 : Nat)) := rfl
              have htk : (ints O).take O.length = ints O := List.take_of_length_le (by rw [ints_len]; exact Nat.le_refl _)
              generalize hla : lastO O = la at *
              refine AW.skip ?_
              refine hK56 _ _ _ ?_; clear hK56
              refine AW.seq fun K58 hK58 => ?_
              refine AW.block ?_
              refine AW.seq fun K59 hK59 => ?_
              -- region 36
              refine AW.regionK 0 (fun _ => none) [1, 5, 7, 13, 14, 15] [1, 40, 102] ?_
              simp only [go_sem, reduceIte, reduceCtorEq, Nat.reduceAdd, Nat.reduceMul, Nat.reduceEqDiff, Nat.reduceLT, Nat.reduceLeDiff, Nat.reduceSub, Nat.reducePow, Nat.reduceBEq, Int.reduceToNat, List.reduceReplicate, hlw, hlt, hlt2, hgl]
              repeat with_reducible refine cj ?_ ?_
              all_goals try first | omega
              refine hK59 _ _ _ ?_; clear hK59
              refine AW.seq fun K60 hK60 => ?_
              -- region 37
              refine AW.regionK 0 (fun _ => none) [1, 5, 7, 13, 14, 15, 117, 118] [1, 40, 102] ?_
              simp only [go_sem, reduceIte, reduceCtorEq, Nat.reduceAdd, Nat.reduceMul, Nat.reduceEqDiff, Nat.reduceLT, Nat.reduceLeDiff, Nat.reduceSub, Nat.reducePow, Nat.reduceBEq, Int.reduceToNat, List.reduceReplicate, hlw, hlt]
              repeat with_reducible refine cj ?_ ?_
              all_goals try first | omega
              refine hK60 _ _ _ ?_; clear hK60
              refine AW.block ?_
              -- loop 5
              refine AW.loopE (fun mm ee ss kk => ∃ (q g1 v1 g7 v7 g13 v13 : Nat), n - q = mm ∧ ee = [(1, .ptr ⟨1, g1, none⟩ 0 0), (5, .int .i64 (j : Nat)), (7, .sl ⟨40, g7, none⟩ 0 n none), (13, .sl ⟨102, g13, none⟩ 0 O.length none), (14, .int .i64 L), (15, .int .i64 la), (117, .int .i64 n), (118, .int .i64 (q : Nat))] ∧ ss = [(1, some ⟨g1, v1, 1, [[.rsl 2 (tabR t)]]⟩), (40, some ⟨g7, v7, 1, ints st.1⟩), (102, some ⟨g13, v13, 1, ints O⟩)] ∧ (q ≤ n ∧ ∀ u, u < q → (atT t la.toNat u && decide ((u : Int) ≠ j) && decide (st.1.getD u 0 = (m + 1 : Nat))) = false)) ?_ ?_
              · refine ⟨_, 0, ?_, ?_, ?_, ?_, ?_, ?_, rfl, ?henv, ?hstore, ?hst⟩
                case henv =>
                  repeat' (first | rfl | refine env_cons ?_ ?_ | refine st_cons ?_ ?_ ?_ ?_ | refine int_eq ?_ | refine bool_eq ?_ | refine rsl_eq ?_ | refine osl_eq ?_ | refine sl_eq ?_ ?_ ?_ | refine ptr_eq ?_ ?_ ?_ | refine agg_eq ?_ | refine es_cons ?_ ?_ | refine row_cons ?_ ?_)
                  all_goals (first | (simp; done) | omega | (simp; omega))
                case hstore =>
                  repeat' (first | rfl | refine env_cons ?_ ?_ | refine st_cons ?_ ?_ ?_ ?_ | refine int_eq ?_ | refine bool_eq ?_ | refine rsl_eq ?_ | refine osl_eq ?_ | refine sl_eq ?_ ?_ ?_ | refine ptr_eq ?_ ?_ ?_ | refine agg_eq ?_ | refine es_cons ?_ ?_ | refine row_cons ?_ ?_)
                  all_goals (first | (simp; done) | omega | (simp; omega))
                case hst =>
                  exact ⟨Nat.zero_le _, fun u hu => by omega⟩
              rintro mm ee ss kk ⟨q, g1, v1, g7, v7, g13, v13, rfl, rfl, rfl, hI⟩
              generalize hQl5 : thenQ _ _ = Ql5
              obtain ⟨hq, hqa⟩ := hI
              refine AW.seq fun K61 hK61 => ?_
              -- region 38
              refine AW.regionK 0 (fun _ => none) [1, 5, 7, 13, 14, 15, 117, 118, 119] [1, 40, 102] ?_
              simp only [go_sem, reduceIte, reduceCtorEq, Nat.reduceAdd, Nat.reduceMul, Nat.reduceEqDiff, Nat.reduceLT, Nat.reduceLeDiff, Nat.reduceSub, Nat.reducePow, Nat.reduceBEq, Int.reduceToNat, List.reduceReplicate, hlw, hlt]
              repeat with_reducible refine cj ?_ ?_
              all_goals try first | omega
              refine hK61 _ _ _ ?_; clear hK61
              refine AW.seq fun K62 hK62 => ?_
              -- cond 12
              refine AW.cond rfl (by simp only [go_sem, reduceIte, reduceCtorEq, Nat.reduceAdd, Nat.reduceMul, Nat.reduceEqDiff, Nat.reduceLT, Nat.reduceLeDiff, Nat.reduceSub, Nat.reducePow, Nat.reduceBEq, Int.reduceToNat, List.reduceReplicate]) ?_ ?_
              · intro hb
                try simp only [hB, decide_eq_true_eq, decide_eq_false_iff_not] at hb
                have hhr := hh2 la.toNat q (by omega) (by omega)
                rw [Int.toNat_of_nonneg hlr.1] at hhr
                have hgq := ints_getD (l := st.1) (i := q) (by omega)
                refine AW.skip ?_
                refine hK62 _ _ _ ?_; clear hK62
                refine AW.seq fun K63 hK63 => ?_
                refine AW.block ?_
                refine AW.seq fun K64 hK64 => ?_
                -- region 39
                refine AW.regionK 0 (fun _ => none) [1, 5, 7, 13, 14, 15, 16, 117, 118] [1, 40, 102] ?_
                simp only [go_sem, reduceIte, reduceCtorEq, Nat.reduceAdd, Nat.reduceMul, Nat.reduceEqDiff, Nat.reduceLT, Nat.reduceLeDiff, Nat.reduceSub, Nat.reducePow, Nat.reduceBEq, Int.reduceToNat, List.reduceReplicate, hlw, hlt]
                repeat with_reducible refine cj ?_ ?_
                all_goals try first | omega
                refine hK64 _ _ _ ?_; clear hK64
                refine AW.seq fun K65 hK65 => ?_
                -- region 40
                refine AW.regionK 0 (fun ii => if ii = 3 then some (.reads false (.bool (atT t la.toNat q))) else none) [1, 5, 7, 13, 14, 15, 16, 117, 118, 137] [1, 40, 102] ?_
                simp only [go_sem, reduceIte, reduceCtorEq, Nat.reduceAdd, Nat.reduceMul, Nat.reduceEqDiff, Nat.reduceLT, Nat.reduceLeDiff, Nat.reduceSub, Nat.reducePow, Nat.reduceBEq, Int.reduceToNat, List.reduceReplicate, hlw, hlt, hgq]
                repeat with_reducible refine cj ?_ ?_
                all_goals try first | (first | exact hhr | (intro hh; (repeat' apply And.intro) <;> first | exact hh | omega)) | (intros; (repeat' apply And.intro) <;> first | assumption | (first | exact hhr | (intro hh; (repeat' apply And.intro) <;> first | exact hh | omega))) | omega | exact ent (by kernel_rfl) | (intro hgd; exact absurd hgd (by decide)) | rfl | (simp only [go_sem, reduceIte, reduceCtorEq, Nat.reduceAdd, Nat.reduceMul, Nat.reduceEqDiff, Nat.reduceLT, Nat.reduceLeDiff, Nat.reduceSub, Nat.reducePow, Nat.reduceBEq, Int.reduceToNat, List.reduceReplicate, hlw, hlt, hgq]; done) | (intro _hgd; simp_all [go_sem]; done)
                refine hK65 _ _ _ ?_; clear hK65
                -- cond 13
                refine AW.cond rfl (by simp only [go_sem, reduceIte, reduceCtorEq, Nat.reduceAdd, Nat.reduceMul, Nat.reduceEqDiff, Nat.reduceLT, Nat.reduceLeDiff, Nat.reduceSub, Nat.reducePow, Nat.reduceBEq, Int.reduceToNat, List.reduceReplicate]) ?_ ?_
                · intro hb
                  try simp only [hB, decide_eq_true_eq, decide_eq_false_iff_not] at hb
                  have hq13 := hb
                  have hfound : stepO t n j st.1 la (m + 1 : Nat) = some q := by
                    rw [hso]
                    refine find_range_some (by omega) ?_ hqa
                    simp only [Bool.and_eq_true, decide_eq_true_eq]
                    rw [← hLm]
                    exact hq13
                  rw [hfound] at hou
                  rw [hou] at hout
                  simp only at hout
                  obtain ⟨O', hO'⟩ : ∃ O', O' = O ++ [(q : Int)] := ⟨_, rfl⟩
                  rw [← hO'] at hout
                  have hP : 0 < O'.length ∧ O'.length + m ≤ 1000 ∧ ∀ x ∈ O', 0 ≤ x ∧ x < n := by
                    rw [hO']
                    refine ⟨by simp, by rw [List.length_append, List.length_singleton]; omega, fun x hx => ?_⟩
                    rcases List.mem_append.1 hx with hx | hx
                    · exact hO2 x hx
                    · simp at hx; subst hx; omega
                  refine AW.seq fun K66 hK66 => ?_
                  -- region 41
                  refine AW.regionK 0 (fun _ => none) [1, 5, 7, 13, 14] [1, 40, 102] ?_
                  simp only [go_sem, reduceIte, reduceCtorEq, Nat.reduceAdd, Nat.reduceMul, Nat.reduceEqDiff, Nat.reduceLT, Nat.reduceLeDiff, Nat.reduceSub, Nat.reducePow, Nat.reduceBEq, Int.reduceToNat, List.reduceReplicate, hlw, hlt, htk, ints_app]
                  repeat with_reducible refine cj ?_ ?_
                  all_goals try first | omega | (simp [scP, scalar]; done) | exact scP_words _ | exact scP_ints _ | exact scP_bools _
                  refine hK66 _ _ _ ?_; clear hK66
                  refine AW.exit ?_
                  rw [← hQl5]
                  refine hK58 _ _ _ ?_; clear hK58
                  -- region 35
                  refine AW.regionK 0 (fun _ => none) [1, 5, 7, 13, 14] [1, 40, 102] ?_
                  simp only [go_sem, reduceIte, reduceCtorEq, Nat.reduceAdd, Nat.reduceMul, Nat.reduceEqDiff, Nat.reduceLT, Nat.reduceLeDiff, Nat.reduceSub, Nat.reducePow, Nat.reduceBEq, Int.reduceToNat, List.reduceReplicate, hlw, hlt]
                  repeat with_reducible refine cj ?_ ?_
                  all_goals try first | omega
                  rw [← hQl4]
                  change Exists _
                  refine ⟨_, ?hm, m, ?_, ?_, ?_, ?_, ?_, ?_, L - 1, O', rfl, ?henv, ?hstore, ?hst⟩
                  case henv =>
                    repeat' (first | rfl | refine env_cons ?_ ?_ | refine st_cons ?_ ?_ ?_ ?_ | refine int_eq ?_ | refine bool_eq ?_ | refine rsl_eq ?_ | refine osl_eq ?_ | refine sl_eq ?_ ?_ ?_ | refine ptr_eq ?_ ?_ ?_ | refine agg_eq ?_ | refine es_cons ?_ ?_ | refine row_cons ?_ ?_)
                    all_goals (rw [hO']; try simp)
                  case hstore =>
                    repeat' (first | rfl | refine env_cons ?_ ?_ | refine st_cons ?_ ?_ ?_ ?_ | refine int_eq ?_ | refine bool_eq ?_ | refine rsl_eq ?_ | refine osl_eq ?_ | refine sl_eq ?_ ?_ ?_ | refine ptr_eq ?_ ?_ ?_ | refine agg_eq ?_ | refine es_cons ?_ ?_ | refine row_cons ?_ ?_)
                    all_goals (rw [hO'])
                  case hst =>
                    exact ⟨by omega, hout, hP.1, hP.2.1, hP.2.2, by omega⟩
                  case hm => omega
                · intro hb
                  try simp only [hB, decide_eq_true_eq, decide_eq_false_iff_not] at hb
                  have hq13 := hb
                  have hnf : (atT t la.toNat q && decide ((q : Int) ≠ j) && decide (st.1.getD q 0 = (m + 1 : Nat))) = false := by
                    rw [← hLm, Bool.and_eq_false_iff, Bool.and_eq_false_iff]
                    simp only [decide_eq_false_iff_not, ne_eq, Decidable.not_not]
                    exact hq13
                  refine AW.skip ?_
                  refine hK63 _ _ _ ?_; clear hK63
                  -- region 42
                  refine AW.regionK 0 (fun _ => none) [1, 5, 7, 13, 14, 15, 117, 118] [1, 40, 102] ?_
                  simp only [go_sem, reduceIte, reduceCtorEq, Nat.reduceAdd, Nat.reduceMul, Nat.reduceEqDiff, Nat.reduceLT, Nat.reduceLeDiff, Nat.reduceSub, Nat.reducePow, Nat.reduceBEq, Int.reduceToNat, List.reduceReplicate, hlw, hlt]
                  repeat with_reducible refine cj ?_ ?_
                  all_goals try first | omega
                  rw [← hQl5]
                  change Exists _
                  refine ⟨_, ?hm, q + 1, ?_, ?_, ?_, ?_, ?_, ?_, rfl, ?henv, ?hstore, ?hst⟩
                  case henv =>
                    repeat' (first | rfl | refine env_cons ?_ ?_ | refine st_cons ?_ ?_ ?_ ?_ | refine int_eq ?_ | refine bool_eq ?_ | refine rsl_eq ?_ | refine osl_eq ?_ | refine sl_eq ?_ ?_ ?_ | refine ptr_eq ?_ ?_ ?_ | refine agg_eq ?_ | refine es_cons ?_ ?_ | refine row_cons ?_ ?_)
                    all_goals (first | (simp; done) | omega | (simp; omega))
                  case hstore =>
                    repeat' (first | rfl | refine env_cons ?_ ?_ | refine st_cons ?_ ?_ ?_ ?_ | refine int_eq ?_ | refine bool_eq ?_ | refine rsl_eq ?_ | refine osl_eq ?_ | refine sl_eq ?_ ?_ ?_ | refine ptr_eq ?_ ?_ ?_ | refine agg_eq ?_ | refine es_cons ?_ ?_ | refine row_cons ?_ ?_)
                    all_goals (first | (simp; done) | omega | (simp; omega))
                  case hst =>
                    exact ⟨by omega, fun u hu => by by_cases e : u = q; (subst e; exact hnf); exact hqa u (by omega)⟩
                  case hm => omega
              · intro hb
                try simp only [hB, decide_eq_true_eq, decide_eq_false_iff_not] at hb
                have hqn : q = n := by omega
                subst hqn
                have hnone : stepO t q j st.1 la (m + 1 : Nat) = none := by rw [hso]; exact find_range_none.2 hqa
                rw [hnone] at hou
                rw [hou] at hout
                simp only at hout
                obtain ⟨O', hO'⟩ : ∃ O', O' = O := ⟨_, rfl⟩
                rw [← hO'] at hout
                have hP : 0 < O'.length ∧ O'.length + m ≤ 1000 ∧ ∀ x ∈ O', 0 ≤ x ∧ x < q := by rw [hO']; exact ⟨hO0, by omega, hO2⟩
                refine AW.exit ?_
                rw [← hQl5]
                refine hK58 _ _ _ ?_; clear hK58
                -- region 35
                refine AW.regionK 0 (fun _ => none) [1, 5, 7, 13, 14] [1, 40, 102] ?_
                simp only [go_sem, reduceIte, reduceCtorEq, Nat.reduceAdd, Nat.reduceMul, Nat.reduceEqDiff, Nat.reduceLT, Nat.reduceLeDiff, Nat.reduceSub, Nat.reducePow, Nat.reduceBEq, Int.reduceToNat, List.reduceReplicate, hlw, hlt]
                repeat with_reducible refine cj ?_ ?_
                all_goals try first | omega
                rw [← hQl4]
                change Exists _
                refine ⟨_, ?hm, m, ?_, ?_, ?_, ?_, ?_, ?_, L - 1, O', rfl, ?henv, ?hstore, ?hst⟩
                case henv =>
                  repeat' (first | rfl | refine env_cons ?_ ?_ | refine st_cons ?_ ?_ ?_ ?_ | refine int_eq ?_ | refine bool_eq ?_ | refine rsl_eq ?_ | refine osl_eq ?_ | refine sl_eq ?_ ?_ ?_ | refine ptr_eq ?_ ?_ ?_ | refine agg_eq ?_ | refine es_cons ?_ ?_ | refine row_cons ?_ ?_)
                  all_goals (rw [hO']; try simp)
                case hstore =>
                  repeat' (first | rfl | refine env_cons ?_ ?_ | refine st_cons ?_ ?_ ?_ ?_ | refine int_eq ?_ | refine bool_eq ?_ | refine rsl_eq ?_ | refine osl_eq ?_ | refine sl_eq ?_ ?_ ?_ | refine ptr_eq ?_ ?_ ?_ | refine agg_eq ?_ | refine es_cons ?_ ?_ | refine row_cons ?_ ?_)
                  all_goals (rw [hO'])
                case hst =>
                  exact ⟨by omega, hout, hP.1, hP.2.1, hP.2.2, by omega⟩
                case hm => omega
            · intro hb
              try simp only [hB, decide_eq_true_eq, decide_eq_false_iff_not] at hb
              have hm0 : m = 0 := by omega
              subst hm0
              have hOr : O = res := hout
              subst hOr
              refine AW.exit ?_
              rw [← hQl4]
              refine hK54 _ _ _ ?_; clear hK54
              refine AW.seq fun K67 hK67 => ?_
              -- region 43
              refine AW.regionK 0 (fun _ => none) [2, 3] [102] ?_
              simp only [go_sem, reduceIte, reduceCtorEq, Nat.reduceAdd, Nat.reduceMul, Nat.reduceEqDiff, Nat.reduceLT, Nat.reduceLeDiff, Nat.reduceSub, Nat.reducePow, Nat.reduceBEq, Int.reduceToNat, List.reduceReplicate, hlw, hlt]
              repeat with_reducible refine cj ?_ ?_
              all_goals try first | omega
              refine hK67 _ _ _ ?_; clear hK67
              refine AW.ret ?_
              rw [← hQr]
              simp only [go_sem, reduceIte, reduceCtorEq, Nat.reduceAdd, Nat.reduceMul, Nat.reduceEqDiff, Nat.reduceLT, Nat.reduceLeDiff, Nat.reduceSub, Nat.reducePow, Nat.reduceBEq, Int.reduceToNat, List.reduceReplicate, hlw, hlt]
              rw [← hres]
              exact Wk.refl _
      · intro hb
        try simp only [hB, decide_eq_true_eq, decide_eq_false_iff_not] at hb
        have hjf : j ≠ f := by rintro rfl; rw [hf1] at hb; cases hb
        refine AW.skip ?_
        refine hK10 _ _ _ ?_; clear hK10
        -- region 10
        refine AW.regionK 0 (fun _ => none) [1, 4, 5, 24, 25] [1, 4] ?_
        simp only [go_sem, reduceIte, reduceCtorEq, Nat.reduceAdd, Nat.reduceMul, Nat.reduceEqDiff, Nat.reduceLT, Nat.reduceLeDiff, Nat.reduceSub, Nat.reducePow, Nat.reduceBEq, Int.reduceToNat, List.reduceReplicate, hlw, hlt]
        repeat with_reducible refine cj ?_ ?_
        all_goals try first | omega
        rw [← hQl1]
        change Exists _
        refine ⟨_, ?hm, j + 1, n - (j + 1), ?_, ?_, ?_, ?_, rfl, ?henv, ?hstore, ?hst⟩
        case henv =>
          repeat' (first | rfl | refine env_cons ?_ ?_ | refine st_cons ?_ ?_ ?_ ?_ | refine int_eq ?_ | refine bool_eq ?_ | refine rsl_eq ?_ | refine osl_eq ?_ | refine sl_eq ?_ ?_ ?_ | refine ptr_eq ?_ ?_ ?_ | refine agg_eq ?_ | refine es_cons ?_ ?_ | refine row_cons ?_ ?_)
          all_goals (first | (simp; done) | omega | (simp; omega))
        case hstore =>
          repeat' (first | rfl | refine env_cons ?_ ?_ | refine st_cons ?_ ?_ ?_ ?_ | refine int_eq ?_ | refine bool_eq ?_ | refine rsl_eq ?_ | refine osl_eq ?_ | refine sl_eq ?_ ?_ ?_ | refine ptr_eq ?_ ?_ ?_ | refine agg_eq ?_ | refine es_cons ?_ ?_ | refine row_cons ?_ ?_)
          all_goals (first | (simp; done) | omega | (simp; omega))
        case hst =>
          exact ⟨by omega, rfl⟩
        case hm => omega
    · intro hb
      try simp only [hB, decide_eq_true_eq, decide_eq_false_iff_not] at hb
      exfalso; omega
end Go.Proofs.R

/- The relation chapter's examples, computed. -/
namespace Go.AM
def exP1 : List (Int × Int) := [(0, 1), (1, 2), (0, 2)]
def exP2 : List (Int × Int) := [(0, 1), (1, 2), (0, 2), (2, 1)]
def exT1 : List (List Bool) := putL (zeroT 3) exP1
def exT2 : List (List Bool) := putL (zeroT 3) exP2
theorem ex_in1 : ∀ p ∈ exP1, inP 3 p := by unfold inP; decide
theorem ex_in2 : ∀ p ∈ exP2, inP 3 p := by unfold inP; decide
theorem ex_ac : acyc 3 exT1 = true := by decide
theorem ex_red : pairsT (redT 3 exT1 (compT 3 exT1 (warsh 3 exT1))) 3 = [(0, 1), (1, 2)] := by decide
theorem ex_first : firstC 3 exT2 = some 1 := by decide
theorem ex_cyc : cycB exT2 3 1 5 0 (cyc0 3 1) = some ([1, -1, 1], [1, 0, 2], 2) := by decide
theorem ex_out : outW exT2 3 1 [1, -1, 1] 1 [1] = [1, 2] := by decide
end Go.AM

namespace Go.Proofs.R
open Go.AM Go
set_option maxRecDepth 100000
set_option maxHeartbeats 1000000
theorem awake_r : Reads Try.prog 9 false [] (.bool true) := by
  have hm1 : Reads Try.prog 11 false [.int .i64 3, .rsl 2 (exP1.map pairV)] (.tup [relB exT1, .int .i64 ((0 : Nat) : Int)]) := make_g 3 exP1 (by decide) (by decide) ex_in1
  have hm2 : Reads Try.prog 11 false [.int .i64 3, .rsl 2 (exP2.map pairV)] (.tup [relB exT2, .int .i64 ((0 : Nat) : Int)]) := make_g 3 exP2 (by decide) (by decide) ex_in2
  have hs1 : Sq 3 exT1 := Sq.putL _ (Sq.rep 3) ex_in1
  have hs2 : Sq 3 exT2 := Sq.putL _ (Sq.rep 3) ex_in2
  have hr := reduction_g 3 exT1 hs1 (by decide) ex_ac
  have hsr : Sq 3 (redT 3 exT1 (compT 3 exT1 (warsh 3 exT1))) := Sq.red hs1 (Sq.comp hs1.warsh)
  have hp := pairs_g 3 _ hsr (by decide)
  rw [ex_red] at hp
  have hc := cycle_c 3 exT2 hs2 (by decide) 1 ex_first _ ex_cyc
  have ho : outW exT2 3 ((1 : Nat) : Int) [1, -1, 1] (((2 : Int) - 1).toNat) [((1 : Nat) : Int)] = [1, 2] := ex_out
  simp only at hc
  rw [ho] at hc
  have he1 := eqpairs_r [(0, 1), (1, 2)] [(0, 1), (1, 2)] (by decide)
  rw [decide_eq_true rfl] at he1
  have he2 := eqi_r [1, 2] [1, 2] (by decide)
  rw [show (([1, 2] : List Int) == [1, 2]) = true from rfl] at he2
  have hv1 : [[AV.int .i64 0, .int .i64 1], [.int .i64 1, .int .i64 2], [.int .i64 0, .int .i64 2]] = exP1.map pairV := rfl
  have hv2 : [[AV.int .i64 0, .int .i64 1], [.int .i64 1, .int .i64 2], [.int .i64 0, .int .i64 2], [.int .i64 2, .int .i64 1]] = exP2.map pairV := rfl
  have hv3 : [[AV.int .i64 0, .int .i64 1], [.int .i64 1, .int .i64 2]] = [((0 : Int), (1 : Int)), (1, 2)].map pairV := rfl
  have hv4 : [[AV.int .i64 1], [.int .i64 2]] = ints [1, 2] := rfl
  generalize redT 3 exT1 (compT 3 exT1 (warsh 3 exT1)) = T3 at *
  unfold relB at *
  refine Reads.body (rs := [.tmp 0]) Try.func9 rfl Try.ntmps9 rfl (by simp) ?_
  generalize hQr : retQ _ _ _ = Qr
  refine AW.seq fun K1 hK1 => ?_
  -- region 0
  refine AW.regionK 0 (fun _ => none) [] [] ?_
  simp only [go_sem, reduceIte, reduceCtorEq, Nat.reduceAdd, Nat.reduceMul, Nat.reduceEqDiff, Nat.reduceLT, Nat.reduceLeDiff, Nat.reduceSub, Nat.reducePow, Nat.reduceBEq, Int.reduceToNat, List.reduceReplicate]
  repeat with_reducible refine cj ?_ ?_
  all_goals try first | omega
  refine hK1 _ _ _ ?_; clear hK1
  refine AW.seq fun K2 hK2 => ?_
  -- region 1
  refine AW.regionG 0 (fun ii => if ii = 4 then some (.reads false (.tup [.agg [.rsl 2 (tabR exT1)], .int .i64 ((0 : Nat) : Int)])) else none) (fun ii => if ii = 4 then some ([15], [15]) else none) [1, 2] [1] ?_
  simp only [go_sem, reduceIte, reduceCtorEq, Nat.reduceAdd, Nat.reduceMul, Nat.reduceEqDiff, Nat.reduceLT, Nat.reduceLeDiff, Nat.reduceSub, Nat.reducePow, Nat.reduceBEq, Int.reduceToNat, List.reduceReplicate, hv1]
  repeat with_reducible refine cj ?_ ?_
  all_goals try first | (exact hm1) | omega | exact ent (by kernel_rfl)
  refine hK2 _ _ _ ?_; clear hK2
  refine AW.seq fun K3 hK3 => ?_
  -- region 2
  refine AW.regionK 0 (fun ii => if ii = 1 then some (.reads false (.tup [.agg [.rsl 2 (tabR T3)], .int .i64 ((0 : Nat) : Int)])) else none) [2, 3, 4] [3] ?_
  simp only [go_sem, reduceIte, reduceCtorEq, Nat.reduceAdd, Nat.reduceMul, Nat.reduceEqDiff, Nat.reduceLT, Nat.reduceLeDiff, Nat.reduceSub, Nat.reducePow, Nat.reduceBEq, Int.reduceToNat, List.reduceReplicate]
  repeat with_reducible refine cj ?_ ?_
  all_goals try first | (exact hr) | omega | exact ent (by kernel_rfl)
  refine hK3 _ _ _ ?_; clear hK3
  refine AW.seq fun K4 hK4 => ?_
  -- region 3
  refine AW.regionK 0 (fun ii => if ii = 1 then some (.reads false (.tup [.rsl 2 ([((0 : Int), (1 : Int)), (1, 2)].map pairV), .int .i64 ((0 : Nat) : Int)])) else none) [2, 4, 5, 6] [] ?_
  simp only [go_sem, reduceIte, reduceCtorEq, Nat.reduceAdd, Nat.reduceMul, Nat.reduceEqDiff, Nat.reduceLT, Nat.reduceLeDiff, Nat.reduceSub, Nat.reducePow, Nat.reduceBEq, Int.reduceToNat, List.reduceReplicate]
  repeat with_reducible refine cj ?_ ?_
  all_goals try first | (exact hp) | omega | exact ent (by kernel_rfl)
  refine hK4 _ _ _ ?_; clear hK4
  refine AW.seq fun K5 hK5 => ?_
  -- region 4
  refine AW.regionG 0 (fun ii => if ii = 5 then some (.reads false (.tup [.agg [.rsl 2 (tabR exT2)], .int .i64 ((0 : Nat) : Int)])) else none) (fun ii => if ii = 5 then some ([34], [34]) else none) [2, 4, 5, 6, 7, 8] [7] ?_
  simp only [go_sem, reduceIte, reduceCtorEq, Nat.reduceAdd, Nat.reduceMul, Nat.reduceEqDiff, Nat.reduceLT, Nat.reduceLeDiff, Nat.reduceSub, Nat.reducePow, Nat.reduceBEq, Int.reduceToNat, List.reduceReplicate, hv2]
  repeat with_reducible refine cj ?_ ?_
  all_goals try first | (exact hm2) | omega | exact ent (by kernel_rfl)
  refine hK5 _ _ _ ?_; clear hK5
  refine AW.seq fun K6 hK6 => ?_
  -- region 5
  refine AW.regionK 0 (fun ii => if ii = 1 then some (.reads false (.tup [.rsl 1 (ints [1, 2]), .int .i64 ((0 : Nat) : Int)])) else none) [2, 4, 5, 6, 8, 9, 10] [] ?_
  simp only [go_sem, reduceIte, reduceCtorEq, Nat.reduceAdd, Nat.reduceMul, Nat.reduceEqDiff, Nat.reduceLT, Nat.reduceLeDiff, Nat.reduceSub, Nat.reducePow, Nat.reduceBEq, Int.reduceToNat, List.reduceReplicate]
  repeat with_reducible refine cj ?_ ?_
  all_goals try first | (exact hc) | omega | exact ent (by kernel_rfl)
  refine hK6 _ _ _ ?_; clear hK6
  refine AW.seq fun K7 hK7 => ?_
  -- region 6
  refine AW.regionK 0 (fun ii => if ii = 15 then some (.reads true (.bool true)) else if ii = 28 then some (.reads true (.bool true)) else none) [0] [] ?_
  simp only [go_sem, reduceIte, reduceCtorEq, Nat.reduceAdd, Nat.reduceMul, Nat.reduceEqDiff, Nat.reduceLT, Nat.reduceLeDiff, Nat.reduceSub, Nat.reducePow, Nat.reduceBEq, Int.reduceToNat, List.reduceReplicate, hv3, hv4]
  repeat with_reducible refine cj ?_ ?_
  all_goals try first | (first | (intro hh; exact ⟨hh, Reads.flat he1 rfl⟩) | (intro hh; exact ⟨hh, Reads.flat he2 rfl⟩)) | (intros; (repeat' apply And.intro) <;> first | assumption | (first | (intro hh; exact ⟨hh, Reads.flat he1 rfl⟩) | (intro hh; exact ⟨hh, Reads.flat he2 rfl⟩))) | omega | exact ent (by kernel_rfl) | (intro hgd; exact absurd hgd (by decide)) | rfl | (simp only [go_sem, reduceIte, reduceCtorEq, Nat.reduceAdd, Nat.reduceMul, Nat.reduceEqDiff, Nat.reduceLT, Nat.reduceLeDiff, Nat.reduceSub, Nat.reducePow, Nat.reduceBEq, Int.reduceToNat, List.reduceReplicate, hv3, hv4]; done) | (intro _hgd; simp_all [go_sem]; done)
  refine hK7 _ _ _ ?_; clear hK7
  refine AW.ret ?_
  rw [← hQr]
  simp only [go_sem, reduceIte, reduceCtorEq, Nat.reduceAdd, Nat.reduceMul, Nat.reduceEqDiff, Nat.reduceLT, Nat.reduceLeDiff, Nat.reduceSub, Nat.reducePow, Nat.reduceBEq, Int.reduceToNat, List.reduceReplicate]
  exact Wk.of_eq (by simp)
end Go.Proofs.R

namespace Go.Proofs.R
open Go.AM Go
set_option maxRecDepth 100000
set_option maxHeartbeats 1000000
def longW (x : USet) : Bool := decide (20 < (x.W.length : Int))
def greatB (rs : List USet) : Bool := (decide (40 < (rs.length : Int)) && decide ((rs.length : Int) ≤ 512)) || decide (520 < (rs.length : Int)) || rs.any longW
def relC (rs : List USet) : List AV := [.rsl 2 (rs.map rowV)]
theorem g42_r (x : USet) (hx : x.W.length ≤ 9223372036854775807) : Reads Try.prog 42 false [.agg (rowV x)] (.bool (longW x)) := by
  unfold rowV
  refine Reads.body (rs := [.tmp 2]) Try.func42 rfl Try.ntmps42 rfl (by simp) ?_
  generalize hQr : retQ _ _ _ = Qr
  refine AW.seq fun K1 hK1 => ?_
  -- region 0
  refine AW.regionK 0 (fun _ => none) [1] [1] ?_
  simp only [go_sem, reduceIte, reduceCtorEq, Nat.reduceAdd, Nat.reduceMul, Nat.reduceEqDiff, Nat.reduceLT, Nat.reduceLeDiff, Nat.reduceSub, Nat.reducePow, Nat.reduceBEq, Int.reduceToNat, List.reduceReplicate]
  repeat with_reducible refine cj ?_ ?_
  all_goals try first | omega
  refine hK1 _ _ _ ?_; clear hK1
  refine AW.seq fun K2 hK2 => ?_
  -- region 1
  refine AW.regionK 0 (fun _ => none) [2] [] ?_
  simp only [go_sem, reduceIte, reduceCtorEq, Nat.reduceAdd, Nat.reduceMul, Nat.reduceEqDiff, Nat.reduceLT, Nat.reduceLeDiff, Nat.reduceSub, Nat.reducePow, Nat.reduceBEq, Int.reduceToNat, List.reduceReplicate]
  repeat with_reducible refine cj ?_ ?_
  all_goals try first | omega
  refine hK2 _ _ _ ?_; clear hK2
  refine AW.ret ?_
  rw [← hQr]
  simp only [go_sem, reduceIte, reduceCtorEq, Nat.reduceAdd, Nat.reduceMul, Nat.reduceEqDiff, Nat.reduceLT, Nat.reduceLeDiff, Nat.reduceSub, Nat.reducePow, Nat.reduceBEq, Int.reduceToNat, List.reduceReplicate]
  exact Wk.of_eq (by simp [longW])
theorem g59_r (rs : List USet) (hl : longR rs) : Reads Try.prog 59 false [.rsl 2 (rs.map rowV), .fn 42 []] (.int .i64 (ixf longW rs)) := by
  have hbp := fun x hxm => g42_r x (hl.2 x hxm)
  have hl1 := hl.1
  refine Reads.body (rs := [.tmp 4]) Try.func59 rfl Try.ntmps59 rfl (by simp) ?_
  generalize hQr : retQ _ _ _ = Qr
  refine AW.seq fun K1 hK1 => ?_
  -- region 0
  refine AW.regionK 0 (fun _ => none) [0, 1] [] ?_
  simp only [go_sem, reduceIte, reduceCtorEq, Nat.reduceAdd, Nat.reduceMul, Nat.reduceEqDiff, Nat.reduceLT, Nat.reduceLeDiff, Nat.reduceSub, Nat.reducePow, Nat.reduceBEq, Int.reduceToNat, List.reduceReplicate]
  repeat with_reducible refine cj ?_ ?_
  all_goals try first | omega
  refine hK1 _ _ _ ?_; clear hK1
  refine AW.seq fun K2 hK2 => ?_
  refine AW.seq fun K3 hK3 => ?_
  -- region 1
  refine AW.regionK 0 (fun _ => none) [0, 1, 7, 8] [] ?_
  simp only [go_sem, reduceIte, reduceCtorEq, Nat.reduceAdd, Nat.reduceMul, Nat.reduceEqDiff, Nat.reduceLT, Nat.reduceLeDiff, Nat.reduceSub, Nat.reducePow, Nat.reduceBEq, Int.reduceToNat, List.reduceReplicate]
  repeat with_reducible refine cj ?_ ?_
  all_goals try first | omega
  refine hK3 _ _ _ ?_; clear hK3
  refine AW.block ?_
  -- loop 1
  refine AW.loopE (fun mm ee ss kk => ∃ (j : Nat), rs.length - j = mm ∧ ee = [(0, .rsl 2 (rs.map rowV)), (1, .fn 42 []), (7, .int .i64 rs.length), (8, .int .i64 (j : Nat))] ∧ ss = [] ∧ (j ≤ rs.length ∧ (rs.take j).any longW = false)) ?_ ?_
  · refine ⟨_, 0, rfl, ?henv, ?hstore, ?hst⟩
    case henv =>
      repeat' (first | rfl | refine env_cons ?_ ?_ | refine st_cons ?_ ?_ ?_ ?_ | refine int_eq ?_ | refine bool_eq ?_ | refine rsl_eq ?_ | refine osl_eq ?_ | refine sl_eq ?_ ?_ ?_ | refine ptr_eq ?_ ?_ ?_ | refine agg_eq ?_ | refine es_cons ?_ ?_ | refine row_cons ?_ ?_)
      all_goals (first | (simp; done) | omega | (simp; omega))
    case hstore =>
      repeat' (first | rfl | refine env_cons ?_ ?_ | refine st_cons ?_ ?_ ?_ ?_ | refine int_eq ?_ | refine bool_eq ?_ | refine rsl_eq ?_ | refine osl_eq ?_ | refine sl_eq ?_ ?_ ?_ | refine ptr_eq ?_ ?_ ?_ | refine agg_eq ?_ | refine es_cons ?_ ?_ | refine row_cons ?_ ?_)
      all_goals (first | (simp; done) | omega | (simp; omega))
    case hst =>
      first | trivial | omega | (simp; done) | (simp; omega)
  rintro mm ee ss kk ⟨j, rfl, rfl, rfl, hI⟩
  generalize hQl1 : thenQ _ _ = Ql1
  obtain ⟨hj, hall⟩ := hI
  refine AW.seq fun K4 hK4 => ?_
  -- region 2
  refine AW.regionK 0 (fun _ => none) [0, 1, 7, 8, 9] [] ?_
  simp only [go_sem, reduceIte, reduceCtorEq, Nat.reduceAdd, Nat.reduceMul, Nat.reduceEqDiff, Nat.reduceLT, Nat.reduceLeDiff, Nat.reduceSub, Nat.reducePow, Nat.reduceBEq, Int.reduceToNat, List.reduceReplicate]
  repeat with_reducible refine cj ?_ ?_
  all_goals try first | omega
  refine hK4 _ _ _ ?_; clear hK4
  refine AW.seq fun K5 hK5 => ?_
  -- cond 1
  refine AW.cond rfl (by simp only [go_sem, reduceIte, reduceCtorEq, Nat.reduceAdd, Nat.reduceMul, Nat.reduceEqDiff, Nat.reduceLT, Nat.reduceLeDiff, Nat.reduceSub, Nat.reducePow, Nat.reduceBEq, Int.reduceToNat, List.reduceReplicate]) ?_ ?_
  · intro hb
    try simp only [hB, decide_eq_true_eq, decide_eq_false_iff_not] at hb
    obtain ⟨x, hx⟩ := getI (l := rs) (j := j) (by omega)
    have hgx := getV (f := rowV) hx
    have hats := any_take_succ (p := longW) hx
    have hbx := hbp x (List.mem_of_getElem? hx)
    refine AW.skip ?_
    refine hK5 _ _ _ ?_; clear hK5
    refine AW.seq fun K6 hK6 => ?_
    refine AW.block ?_
    refine AW.seq fun K7 hK7 => ?_
    -- region 3
    refine AW.regionK 0 (fun _ => none) [0, 1, 5, 7, 8] [] ?_
    simp only [go_sem, reduceIte, reduceCtorEq, Nat.reduceAdd, Nat.reduceMul, Nat.reduceEqDiff, Nat.reduceLT, Nat.reduceLeDiff, Nat.reduceSub, Nat.reducePow, Nat.reduceBEq, Int.reduceToNat, List.reduceReplicate]
    repeat with_reducible refine cj ?_ ?_
    all_goals try first | omega
    refine hK7 _ _ _ ?_; clear hK7
    refine AW.seq fun K8 hK8 => ?_
    -- region 4
    refine AW.regionK 0 (fun ii => if ii = 5 then some (.reads false (.bool (longW x))) else none) [0, 1, 5, 7, 8, 16] [] ?_
    simp only [go_sem, reduceIte, reduceCtorEq, Nat.reduceAdd, Nat.reduceMul, Nat.reduceEqDiff, Nat.reduceLT, Nat.reduceLeDiff, Nat.reduceSub, Nat.reducePow, Nat.reduceBEq, Int.reduceToNat, List.reduceReplicate, hgx, rowV]
    repeat with_reducible refine cj ?_ ?_
    all_goals try first | (exact hbx) | omega | exact ent (by kernel_rfl)
    refine hK8 _ _ _ ?_; clear hK8
    -- cond 2
    refine AW.cond rfl (by simp only [go_sem, reduceIte, reduceCtorEq, Nat.reduceAdd, Nat.reduceMul, Nat.reduceEqDiff, Nat.reduceLT, Nat.reduceLeDiff, Nat.reduceSub, Nat.reducePow, Nat.reduceBEq, Int.reduceToNat, List.reduceReplicate]) ?_ ?_
    · intro hb
      try simp only [hB, decide_eq_true_eq, decide_eq_false_iff_not] at hb
      refine AW.seq fun K9 hK9 => ?_
      -- region 5
      refine AW.regionK 0 (fun _ => none) [4] [] ?_
      simp only [go_sem, reduceIte, reduceCtorEq, Nat.reduceAdd, Nat.reduceMul, Nat.reduceEqDiff, Nat.reduceLT, Nat.reduceLeDiff, Nat.reduceSub, Nat.reducePow, Nat.reduceBEq, Int.reduceToNat, List.reduceReplicate]
      repeat with_reducible refine cj ?_ ?_
      all_goals try first | omega
      refine hK9 _ _ _ ?_; clear hK9
      refine AW.ret ?_
      rw [← hQl1]
      rw [← hQr]
      simp only [go_sem, reduceIte, reduceCtorEq, Nat.reduceAdd, Nat.reduceMul, Nat.reduceEqDiff, Nat.reduceLT, Nat.reduceLeDiff, Nat.reduceSub, Nat.reducePow, Nat.reduceBEq, Int.reduceToNat, List.reduceReplicate]
      exact Wk.of_eq (by rw [ixf_at hx hb hall])
    · intro hb
      try simp only [hB, decide_eq_true_eq, decide_eq_false_iff_not] at hb
      refine AW.skip ?_
      refine hK6 _ _ _ ?_; clear hK6
      -- region 6
      refine AW.regionK 0 (fun _ => none) [0, 1, 7, 8] [] ?_
      simp only [go_sem, reduceIte, reduceCtorEq, Nat.reduceAdd, Nat.reduceMul, Nat.reduceEqDiff, Nat.reduceLT, Nat.reduceLeDiff, Nat.reduceSub, Nat.reducePow, Nat.reduceBEq, Int.reduceToNat, List.reduceReplicate]
      repeat with_reducible refine cj ?_ ?_
      all_goals try first | omega
      rw [← hQl1]
      change Exists _
      refine ⟨_, ?hm, j + 1, rfl, ?henv, ?hstore, ?hst⟩
      case henv =>
        repeat' (first | rfl | refine env_cons ?_ ?_ | refine st_cons ?_ ?_ ?_ ?_ | refine int_eq ?_ | refine bool_eq ?_ | refine rsl_eq ?_ | refine osl_eq ?_ | refine sl_eq ?_ ?_ ?_ | refine ptr_eq ?_ ?_ ?_ | refine agg_eq ?_ | refine es_cons ?_ ?_ | refine row_cons ?_ ?_)
        all_goals (first | (simp; done) | omega | (simp; omega))
      case hstore =>
        repeat' (first | rfl | refine env_cons ?_ ?_ | refine st_cons ?_ ?_ ?_ ?_ | refine int_eq ?_ | refine bool_eq ?_ | refine rsl_eq ?_ | refine osl_eq ?_ | refine sl_eq ?_ ?_ ?_ | refine ptr_eq ?_ ?_ ?_ | refine agg_eq ?_ | refine es_cons ?_ ?_ | refine row_cons ?_ ?_)
        all_goals (first | (simp; done) | omega | (simp; omega))
      case hst =>
        exact ⟨by omega, by rw [hats, hall, hb]; rfl⟩
      case hm => omega
  · intro hb
    try simp only [hB, decide_eq_true_eq, decide_eq_false_iff_not] at hb
    refine AW.keep [] [] ?_
    try simp only [go_sem, reduceIte, reduceCtorEq, Nat.reduceAdd, Nat.reduceMul, Nat.reduceEqDiff, Nat.reduceLT, Nat.reduceLeDiff, Nat.reduceSub, Nat.reducePow, Nat.reduceBEq, Int.reduceToNat, List.reduceReplicate]
    refine AW.exit ?_
    rw [← hQl1]
    refine hK2 _ _ _ ?_; clear hK2
    refine AW.seq fun K10 hK10 => ?_
    -- region 7
    refine AW.regionK 0 (fun _ => none) [4] [] ?_
    simp only [go_sem, reduceIte, reduceCtorEq, Nat.reduceAdd, Nat.reduceMul, Nat.reduceEqDiff, Nat.reduceLT, Nat.reduceLeDiff, Nat.reduceSub, Nat.reducePow, Nat.reduceBEq, Int.reduceToNat, List.reduceReplicate]
    repeat with_reducible refine cj ?_ ?_
    all_goals try first | omega
    refine hK10 _ _ _ ?_; clear hK10
    refine AW.ret ?_
    rw [← hQr]
    simp only [go_sem, reduceIte, reduceCtorEq, Nat.reduceAdd, Nat.reduceMul, Nat.reduceEqDiff, Nat.reduceLT, Nat.reduceLeDiff, Nat.reduceSub, Nat.reducePow, Nat.reduceBEq, Int.reduceToNat, List.reduceReplicate]
    exact Wk.of_eq (by rw [List.take_of_length_le (by omega)] at hall; rw [ixf_none hall])
theorem g41_r (rs : List USet) (hl : longR rs) : Reads Try.prog 41 false [.rsl 2 (rs.map rowV), .fn 42 []] (.bool (rs.any longW)) := by
  have h := g59_r rs hl
  have hge := ixf_ge longW rs
  refine Reads.body (rs := [.tmp 4]) Try.func41 rfl Try.ntmps41 rfl (by simp) ?_
  generalize hQr : retQ _ _ _ = Qr
  refine AW.seq fun K1 hK1 => ?_
  -- region 0
  refine AW.regionK 0 (fun _ => none) [0, 1] [] ?_
  simp only [go_sem, reduceIte, reduceCtorEq, Nat.reduceAdd, Nat.reduceMul, Nat.reduceEqDiff, Nat.reduceLT, Nat.reduceLeDiff, Nat.reduceSub, Nat.reducePow, Nat.reduceBEq, Int.reduceToNat, List.reduceReplicate]
  repeat with_reducible refine cj ?_ ?_
  all_goals try first | omega
  refine hK1 _ _ _ ?_; clear hK1
  refine AW.seq fun K2 hK2 => ?_
  -- region 1
  refine AW.regionK 0 (fun ii => if ii = 2 then some (.reads false (.int .i64 (ixf longW rs))) else none) [4] [] ?_
  simp only [go_sem, reduceIte, reduceCtorEq, Nat.reduceAdd, Nat.reduceMul, Nat.reduceEqDiff, Nat.reduceLT, Nat.reduceLeDiff, Nat.reduceSub, Nat.reducePow, Nat.reduceBEq, Int.reduceToNat, List.reduceReplicate]
  repeat with_reducible refine cj ?_ ?_
  all_goals try first | (exact h) | omega | exact ent (by kernel_rfl)
  refine hK2 _ _ _ ?_; clear hK2
  refine AW.ret ?_
  rw [← hQr]
  simp only [go_sem, reduceIte, reduceCtorEq, Nat.reduceAdd, Nat.reduceMul, Nat.reduceEqDiff, Nat.reduceLT, Nat.reduceLeDiff, Nat.reduceSub, Nat.reducePow, Nat.reduceBEq, Int.reduceToNat, List.reduceReplicate]
  exact Wk.of_eq (by rw [hge])
theorem g40_r (rs : List USet) (hl : longR rs) : Reads Try.prog 40 false [relV rs] (.bool (greatB rs)) := by
  have h := g41_r rs hl
  have hl1 := hl.1
  unfold relV
  refine Reads.body (rs := [.tmp 2]) Try.func40 rfl Try.ntmps40 rfl (by simp) ?_
  generalize hQr : retQ _ _ _ = Qr
  refine AW.seq fun K1 hK1 => ?_
  -- region 0
  refine AW.regionK 0 (fun _ => none) [1] [1] ?_
  simp only [go_sem, reduceIte, reduceCtorEq, Nat.reduceAdd, Nat.reduceMul, Nat.reduceEqDiff, Nat.reduceLT, Nat.reduceLeDiff, Nat.reduceSub, Nat.reducePow, Nat.reduceBEq, Int.reduceToNat, List.reduceReplicate]
  repeat with_reducible refine cj ?_ ?_
  all_goals try first | omega
  refine hK1 _ _ _ ?_; clear hK1
  refine AW.seq fun K2 hK2 => ?_
  -- region 1
  refine AW.regionK 0 (fun ii => if ii = 19 then some (.reads false (.bool (rs.any longW))) else none) [2] [] ?_
  simp only [go_sem, reduceIte, reduceCtorEq, Nat.reduceAdd, Nat.reduceMul, Nat.reduceEqDiff, Nat.reduceLT, Nat.reduceLeDiff, Nat.reduceSub, Nat.reducePow, Nat.reduceBEq, Int.reduceToNat, List.reduceReplicate]
  repeat with_reducible refine cj ?_ ?_
  all_goals try first | ((intro hh; exact ⟨hh, h⟩)) | (intros; (repeat' apply And.intro) <;> first | assumption | ((intro hh; exact ⟨hh, h⟩))) | omega | exact ent (by kernel_rfl) | (intro hgd; exact absurd hgd (by decide)) | rfl | (simp only [go_sem, reduceIte, reduceCtorEq, Nat.reduceAdd, Nat.reduceMul, Nat.reduceEqDiff, Nat.reduceLT, Nat.reduceLeDiff, Nat.reduceSub, Nat.reducePow, Nat.reduceBEq, Int.reduceToNat, List.reduceReplicate]; done) | (intro _hgd; simp_all [go_sem]; done)
  refine hK2 _ _ _ ?_; clear hK2
  refine AW.ret ?_
  rw [← hQr]
  simp only [go_sem, reduceIte, reduceCtorEq, Nat.reduceAdd, Nat.reduceMul, Nat.reduceEqDiff, Nat.reduceLT, Nat.reduceLeDiff, Nat.reduceSub, Nat.reducePow, Nat.reduceBEq, Int.reduceToNat, List.reduceReplicate]
  exact Wk.of_eq (by unfold greatB; simp)
theorem g58_r (R : List (List USet)) (hR : R.length ≤ 9223372036854775807) (hl : ∀ rs ∈ R, longR rs) : Reads Try.prog 58 false [.rsl 1 (R.map relC), .fn 40 []] (.int .i64 (ixf greatB R)) := by
  have hbp := fun x hxm => g40_r x (hl x hxm)
  unfold relV at hbp
  refine Reads.body (rs := [.tmp 4]) Try.func58 rfl Try.ntmps58 rfl (by simp) ?_
  generalize hQr : retQ _ _ _ = Qr
  refine AW.seq fun K1 hK1 => ?_
  -- region 0
  refine AW.regionK 0 (fun _ => none) [0, 1] [] ?_
  simp only [go_sem, reduceIte, reduceCtorEq, Nat.reduceAdd, Nat.reduceMul, Nat.reduceEqDiff, Nat.reduceLT, Nat.reduceLeDiff, Nat.reduceSub, Nat.reducePow, Nat.reduceBEq, Int.reduceToNat, List.reduceReplicate]
  repeat with_reducible refine cj ?_ ?_
  all_goals try first | omega
  refine hK1 _ _ _ ?_; clear hK1
  refine AW.seq fun K2 hK2 => ?_
  refine AW.seq fun K3 hK3 => ?_
  -- region 1
  refine AW.regionK 0 (fun _ => none) [0, 1, 7, 8] [] ?_
  simp only [go_sem, reduceIte, reduceCtorEq, Nat.reduceAdd, Nat.reduceMul, Nat.reduceEqDiff, Nat.reduceLT, Nat.reduceLeDiff, Nat.reduceSub, Nat.reducePow, Nat.reduceBEq, Int.reduceToNat, List.reduceReplicate]
  repeat with_reducible refine cj ?_ ?_
  all_goals try first | omega
  refine hK3 _ _ _ ?_; clear hK3
  refine AW.block ?_
  -- loop 1
  refine AW.loopE (fun mm ee ss kk => ∃ (j : Nat), R.length - j = mm ∧ ee = [(0, .rsl 1 (R.map relC)), (1, .fn 40 []), (7, .int .i64 R.length), (8, .int .i64 (j : Nat))] ∧ ss = [] ∧ (j ≤ R.length ∧ (R.take j).any greatB = false)) ?_ ?_
  · refine ⟨_, 0, rfl, ?henv, ?hstore, ?hst⟩
    case henv =>
      repeat' (first | rfl | refine env_cons ?_ ?_ | refine st_cons ?_ ?_ ?_ ?_ | refine int_eq ?_ | refine bool_eq ?_ | refine rsl_eq ?_ | refine osl_eq ?_ | refine sl_eq ?_ ?_ ?_ | refine ptr_eq ?_ ?_ ?_ | refine agg_eq ?_ | refine es_cons ?_ ?_ | refine row_cons ?_ ?_)
      all_goals (first | (simp; done) | omega | (simp; omega))
    case hstore =>
      repeat' (first | rfl | refine env_cons ?_ ?_ | refine st_cons ?_ ?_ ?_ ?_ | refine int_eq ?_ | refine bool_eq ?_ | refine rsl_eq ?_ | refine osl_eq ?_ | refine sl_eq ?_ ?_ ?_ | refine ptr_eq ?_ ?_ ?_ | refine agg_eq ?_ | refine es_cons ?_ ?_ | refine row_cons ?_ ?_)
      all_goals (first | (simp; done) | omega | (simp; omega))
    case hst =>
      first | trivial | omega | (simp; done) | (simp; omega)
  rintro mm ee ss kk ⟨j, rfl, rfl, rfl, hI⟩
  generalize hQl1 : thenQ _ _ = Ql1
  obtain ⟨hj, hall⟩ := hI
  refine AW.seq fun K4 hK4 => ?_
  -- region 2
  refine AW.regionK 0 (fun _ => none) [0, 1, 7, 8, 9] [] ?_
  simp only [go_sem, reduceIte, reduceCtorEq, Nat.reduceAdd, Nat.reduceMul, Nat.reduceEqDiff, Nat.reduceLT, Nat.reduceLeDiff, Nat.reduceSub, Nat.reducePow, Nat.reduceBEq, Int.reduceToNat, List.reduceReplicate]
  repeat with_reducible refine cj ?_ ?_
  all_goals try first | omega
  refine hK4 _ _ _ ?_; clear hK4
  refine AW.seq fun K5 hK5 => ?_
  -- cond 1
  refine AW.cond rfl (by simp only [go_sem, reduceIte, reduceCtorEq, Nat.reduceAdd, Nat.reduceMul, Nat.reduceEqDiff, Nat.reduceLT, Nat.reduceLeDiff, Nat.reduceSub, Nat.reducePow, Nat.reduceBEq, Int.reduceToNat, List.reduceReplicate]) ?_ ?_
  · intro hb
    try simp only [hB, decide_eq_true_eq, decide_eq_false_iff_not] at hb
    obtain ⟨x, hx⟩ := getI (l := R) (j := j) (by omega)
    have hgx := getV (f := relC) hx
    have hats := any_take_succ (p := greatB) hx
    have hbx := hbp x (List.mem_of_getElem? hx)
    refine AW.skip ?_
    refine hK5 _ _ _ ?_; clear hK5
    refine AW.seq fun K6 hK6 => ?_
    refine AW.block ?_
    refine AW.seq fun K7 hK7 => ?_
    -- region 3
    refine AW.regionK 0 (fun _ => none) [0, 1, 5, 7, 8] [] ?_
    simp only [go_sem, reduceIte, reduceCtorEq, Nat.reduceAdd, Nat.reduceMul, Nat.reduceEqDiff, Nat.reduceLT, Nat.reduceLeDiff, Nat.reduceSub, Nat.reducePow, Nat.reduceBEq, Int.reduceToNat, List.reduceReplicate]
    repeat with_reducible refine cj ?_ ?_
    all_goals try first | omega
    refine hK7 _ _ _ ?_; clear hK7
    refine AW.seq fun K8 hK8 => ?_
    -- region 4
    refine AW.regionK 0 (fun ii => if ii = 5 then some (.reads false (.bool (greatB x))) else none) [0, 1, 5, 7, 8, 16] [] ?_
    simp only [go_sem, reduceIte, reduceCtorEq, Nat.reduceAdd, Nat.reduceMul, Nat.reduceEqDiff, Nat.reduceLT, Nat.reduceLeDiff, Nat.reduceSub, Nat.reducePow, Nat.reduceBEq, Int.reduceToNat, List.reduceReplicate, hgx, relC]
    repeat with_reducible refine cj ?_ ?_
    all_goals try first | (exact hbx) | omega | exact ent (by kernel_rfl)
    refine hK8 _ _ _ ?_; clear hK8
    -- cond 2
    refine AW.cond rfl (by simp only [go_sem, reduceIte, reduceCtorEq, Nat.reduceAdd, Nat.reduceMul, Nat.reduceEqDiff, Nat.reduceLT, Nat.reduceLeDiff, Nat.reduceSub, Nat.reducePow, Nat.reduceBEq, Int.reduceToNat, List.reduceReplicate]) ?_ ?_
    · intro hb
      try simp only [hB, decide_eq_true_eq, decide_eq_false_iff_not] at hb
      refine AW.seq fun K9 hK9 => ?_
      -- region 5
      refine AW.regionK 0 (fun _ => none) [4] [] ?_
      simp only [go_sem, reduceIte, reduceCtorEq, Nat.reduceAdd, Nat.reduceMul, Nat.reduceEqDiff, Nat.reduceLT, Nat.reduceLeDiff, Nat.reduceSub, Nat.reducePow, Nat.reduceBEq, Int.reduceToNat, List.reduceReplicate]
      repeat with_reducible refine cj ?_ ?_
      all_goals try first | omega
      refine hK9 _ _ _ ?_; clear hK9
      refine AW.ret ?_
      rw [← hQl1]
      rw [← hQr]
      simp only [go_sem, reduceIte, reduceCtorEq, Nat.reduceAdd, Nat.reduceMul, Nat.reduceEqDiff, Nat.reduceLT, Nat.reduceLeDiff, Nat.reduceSub, Nat.reducePow, Nat.reduceBEq, Int.reduceToNat, List.reduceReplicate]
      exact Wk.of_eq (by rw [ixf_at hx hb hall])
    · intro hb
      try simp only [hB, decide_eq_true_eq, decide_eq_false_iff_not] at hb
      refine AW.skip ?_
      refine hK6 _ _ _ ?_; clear hK6
      -- region 6
      refine AW.regionK 0 (fun _ => none) [0, 1, 7, 8] [] ?_
      simp only [go_sem, reduceIte, reduceCtorEq, Nat.reduceAdd, Nat.reduceMul, Nat.reduceEqDiff, Nat.reduceLT, Nat.reduceLeDiff, Nat.reduceSub, Nat.reducePow, Nat.reduceBEq, Int.reduceToNat, List.reduceReplicate]
      repeat with_reducible refine cj ?_ ?_
      all_goals try first | omega
      rw [← hQl1]
      change Exists _
      refine ⟨_, ?hm, j + 1, rfl, ?henv, ?hstore, ?hst⟩
      case henv =>
        repeat' (first | rfl | refine env_cons ?_ ?_ | refine st_cons ?_ ?_ ?_ ?_ | refine int_eq ?_ | refine bool_eq ?_ | refine rsl_eq ?_ | refine osl_eq ?_ | refine sl_eq ?_ ?_ ?_ | refine ptr_eq ?_ ?_ ?_ | refine agg_eq ?_ | refine es_cons ?_ ?_ | refine row_cons ?_ ?_)
        all_goals (first | (simp; done) | omega | (simp; omega))
      case hstore =>
        repeat' (first | rfl | refine env_cons ?_ ?_ | refine st_cons ?_ ?_ ?_ ?_ | refine int_eq ?_ | refine bool_eq ?_ | refine rsl_eq ?_ | refine osl_eq ?_ | refine sl_eq ?_ ?_ ?_ | refine ptr_eq ?_ ?_ ?_ | refine agg_eq ?_ | refine es_cons ?_ ?_ | refine row_cons ?_ ?_)
        all_goals (first | (simp; done) | omega | (simp; omega))
      case hst =>
        exact ⟨by omega, by rw [hats, hall, hb]; rfl⟩
      case hm => omega
  · intro hb
    try simp only [hB, decide_eq_true_eq, decide_eq_false_iff_not] at hb
    refine AW.keep [] [] ?_
    try simp only [go_sem, reduceIte, reduceCtorEq, Nat.reduceAdd, Nat.reduceMul, Nat.reduceEqDiff, Nat.reduceLT, Nat.reduceLeDiff, Nat.reduceSub, Nat.reducePow, Nat.reduceBEq, Int.reduceToNat, List.reduceReplicate]
    refine AW.exit ?_
    rw [← hQl1]
    refine hK2 _ _ _ ?_; clear hK2
    refine AW.seq fun K10 hK10 => ?_
    -- region 7
    refine AW.regionK 0 (fun _ => none) [4] [] ?_
    simp only [go_sem, reduceIte, reduceCtorEq, Nat.reduceAdd, Nat.reduceMul, Nat.reduceEqDiff, Nat.reduceLT, Nat.reduceLeDiff, Nat.reduceSub, Nat.reducePow, Nat.reduceBEq, Int.reduceToNat, List.reduceReplicate]
    repeat with_reducible refine cj ?_ ?_
    all_goals try first | omega
    refine hK10 _ _ _ ?_; clear hK10
    refine AW.ret ?_
    rw [← hQr]
    simp only [go_sem, reduceIte, reduceCtorEq, Nat.reduceAdd, Nat.reduceMul, Nat.reduceEqDiff, Nat.reduceLT, Nat.reduceLeDiff, Nat.reduceSub, Nat.reducePow, Nat.reduceBEq, Int.reduceToNat, List.reduceReplicate]
    exact Wk.of_eq (by rw [List.take_of_length_le (by omega)] at hall; rw [ixf_none hall])
theorem great_r (R : List (List USet)) (hR : R.length ≤ 9223372036854775807) (hl : ∀ rs ∈ R, longR rs) : Reads Try.prog 10 false [.rsl 1 (R.map relC)] (.bool (R.any greatB)) := by
  have h := g58_r R hR hl
  have hge := ixf_ge greatB R
  have hc : Reads Try.prog 39 false [.rsl 1 (R.map relC), .fn 40 []] (.bool (R.any greatB)) := by
    refine Reads.body (rs := [.tmp 4]) Try.func39 rfl Try.ntmps39 rfl (by simp) ?_
    generalize hQr : retQ _ _ _ = Qr
    refine AW.seq fun K1 hK1 => ?_
    -- region 0
    refine AW.regionK 0 (fun _ => none) [0, 1] [] ?_
    simp only [go_sem, reduceIte, reduceCtorEq, Nat.reduceAdd, Nat.reduceMul, Nat.reduceEqDiff, Nat.reduceLT, Nat.reduceLeDiff, Nat.reduceSub, Nat.reducePow, Nat.reduceBEq, Int.reduceToNat, List.reduceReplicate]
    repeat with_reducible refine cj ?_ ?_
    all_goals try first | omega
    refine hK1 _ _ _ ?_; clear hK1
    refine AW.seq fun K2 hK2 => ?_
    -- region 1
    refine AW.regionK 0 (fun ii => if ii = 2 then some (.reads false (.int .i64 (ixf greatB R))) else none) [4] [] ?_
    simp only [go_sem, reduceIte, reduceCtorEq, Nat.reduceAdd, Nat.reduceMul, Nat.reduceEqDiff, Nat.reduceLT, Nat.reduceLeDiff, Nat.reduceSub, Nat.reducePow, Nat.reduceBEq, Int.reduceToNat, List.reduceReplicate]
    repeat with_reducible refine cj ?_ ?_
    all_goals try first | (exact h) | omega | exact ent (by kernel_rfl)
    refine hK2 _ _ _ ?_; clear hK2
    refine AW.ret ?_
    rw [← hQr]
    simp only [go_sem, reduceIte, reduceCtorEq, Nat.reduceAdd, Nat.reduceMul, Nat.reduceEqDiff, Nat.reduceLT, Nat.reduceLeDiff, Nat.reduceSub, Nat.reducePow, Nat.reduceBEq, Int.reduceToNat, List.reduceReplicate]
    exact Wk.of_eq (by rw [hge])
  refine Reads.body (rs := [.tmp 2]) Try.func10 rfl Try.ntmps10 rfl (by simp) ?_
  generalize hQr : retQ _ _ _ = Qr
  refine AW.seq fun K1 hK1 => ?_
  -- region 0
  refine AW.regionK 0 (fun _ => none) [0] [] ?_
  simp only [go_sem, reduceIte, reduceCtorEq, Nat.reduceAdd, Nat.reduceMul, Nat.reduceEqDiff, Nat.reduceLT, Nat.reduceLeDiff, Nat.reduceSub, Nat.reducePow, Nat.reduceBEq, Int.reduceToNat, List.reduceReplicate]
  repeat with_reducible refine cj ?_ ?_
  all_goals try first | omega
  refine hK1 _ _ _ ?_; clear hK1
  refine AW.seq fun K2 hK2 => ?_
  -- region 1
  refine AW.regionK 0 (fun ii => if ii = 1 then some (.reads false (.bool (R.any greatB))) else none) [2] [] ?_
  simp only [go_sem, reduceIte, reduceCtorEq, Nat.reduceAdd, Nat.reduceMul, Nat.reduceEqDiff, Nat.reduceLT, Nat.reduceLeDiff, Nat.reduceSub, Nat.reducePow, Nat.reduceBEq, Int.reduceToNat, List.reduceReplicate]
  repeat with_reducible refine cj ?_ ?_
  all_goals try first | (exact hc) | omega | exact ent (by kernel_rfl)
  refine hK2 _ _ _ ?_; clear hK2
  refine AW.ret ?_
  rw [← hQr]
  simp only [go_sem, reduceIte, reduceCtorEq, Nat.reduceAdd, Nat.reduceMul, Nat.reduceEqDiff, Nat.reduceLT, Nat.reduceLeDiff, Nat.reduceSub, Nat.reducePow, Nat.reduceBEq, Int.reduceToNat, List.reduceReplicate]
  exact Wk.refl _
end Go.Proofs.R

/- The algebra of relations. -/
namespace Go.AM
theorem bool_ext {x y : Bool} (h : x = true ↔ y = true) : x = y := by cases x <;> cases y <;> simp_all
end Go.AM

namespace Go.Proofs.R
open Go.AM Go
set_option maxRecDepth 100000
set_option maxHeartbeats 2000000
end Go.Proofs.R

/- The transitive closure. -/
namespace Go.AM
theorem warshI_row {n k : Nat} {t : List (List Bool)} (ht : Sq n t) (hk : k < n) : ∀ m, m ≤ n → Sq n (iter (warshI k) m t) ∧ rowT (iter (warshI k) m t) k = rowT t k ∧ ∀ i, i < n → rowT (iter (warshI k) m t) i = if i < m ∧ atT t i k = true then List.zipWith (· || ·) (rowT t i) (rowT t k) else rowT t i
  | 0, _ => ⟨ht, rfl, fun i _ => by rw [if_neg (by omega)]; rfl⟩
  | m + 1, hm => by
    obtain ⟨h1, h2, h3⟩ := warshI_row ht hk m (by omega)
    have hs : Sq n (iter (warshI k) (m + 1) t) := h1.warshI hk (by omega)
    rw [iter_succ, warshI_eq] at hs ⊢
    generalize iter (warshI k) m t = U at *
    have hUl := h1.len
    have hat : atT U m k = atT t m k := by
      have := h3 m (by omega)
      rw [if_neg (by omega)] at this
      unfold atT; rw [this]
    have hrm : rowT U m = rowT t m := by have := h3 m (by omega); rw [if_neg (by omega)] at this; exact this
    have hself : List.zipWith (· || ·) (rowT t k) (rowT t k) = rowT t k := by
      refine List.ext_getElem (by simp) fun i a b => by simp
    by_cases hc : atT t m k = true
    · rw [if_pos (by rw [hat]; exact hc)] at hs ⊢
      unfold orRow at hs ⊢
      refine ⟨hs, ?_, fun i hi => ?_⟩
      · rw [rowT_set]
        by_cases e : m = k
        · rw [if_pos ⟨e, by omega⟩, hrm, h2, e, hself]
        · rw [if_neg (by rintro ⟨x, _⟩; exact e x), h2]
      · rw [rowT_set]
        by_cases e : m = i
        · subst e
          rw [if_pos ⟨rfl, by omega⟩, hrm, h2, if_pos ⟨by omega, hc⟩]
        · rw [if_neg (by rintro ⟨x, _⟩; exact e x), h3 i hi]
          have : (i < m + 1 ∧ atT t i k = true) ↔ (i < m ∧ atT t i k = true) := ⟨fun h => ⟨by omega, h.2⟩, fun h => ⟨by omega, h.2⟩⟩
          simp only [this]
    · rw [if_neg (by rw [hat]; exact hc)] at hs ⊢
      refine ⟨hs, h2, fun i hi => ?_⟩
      rw [h3 i hi]
      have : (i < m + 1 ∧ atT t i k = true) ↔ (i < m ∧ atT t i k = true) := ⟨fun h => ⟨by
        by_cases e : i = m
        · subst e; exact absurd h.2 hc
        · omega, h.2⟩, fun h => ⟨by omega, h.2⟩⟩
      simp only [this]
theorem atT_warshK {n k : Nat} {t : List (List Bool)} (ht : Sq n t) (hk : k < n) {i j : Nat} (hi : i < n) (hj : j < n) : atT (warshK n k t) i j = (atT t i j || (atT t i k && atT t k j)) := by
  obtain ⟨_, _, h3⟩ := warshI_row ht hk n (Nat.le_refl _)
  have h := h3 i hi
  unfold warshK
  have h4 : atT (iter (warshI k) n t) i j = (rowT (iter (warshI k) n t) i).getD j false := rfl
  rw [h4, h]
  by_cases hc : atT t i k = true
  · rw [if_pos ⟨hi, hc⟩, zipB_get _ (by rw [ht.rowLen hi, ht.rowLen hk]) (by rw [ht.rowLen hi]; exact hj), hc, Bool.true_and]; rfl
  · rw [if_neg (by rintro ⟨_, x⟩; exact hc x)]
    have : atT t i k = false := by simpa using hc
    rw [this, Bool.false_and, Bool.or_false]; rfl
/-- Paths whose inner nodes are less than k. -/
def R_ (t : List (List Bool)) : Nat → Nat → Nat → Bool
  | 0, i, j => atT t i j
  | k + 1, i, j => R_ t k i j || (R_ t k i k && R_ t k k j)
theorem warsh_R {n : Nat} {t : List (List Bool)} (ht : Sq n t) : ∀ m, m ≤ n → ∀ i j, i < n → j < n → atT (iter (warshK n) m t) i j = R_ t m i j
  | 0, _, i, j, _, _ => rfl
  | m + 1, hm, i, j, hi, hj => by
    have ih := warsh_R ht m (by omega)
    rw [iter_succ, atT_warshK (ht.warsh' (by omega)) (by omega) hi hj, ih i j hi hj, ih i m hi (by omega), ih m j (by omega) hj]; rfl
theorem R_trans {t : List (List Bool)} : ∀ (k m : Nat), m < k → ∀ i j, R_ t k i m = true → R_ t k m j = true → R_ t k i j = true
  | k + 1, m, hm, i, j, h1, h2 => by
    simp only [R_, Bool.or_eq_true, Bool.and_eq_true] at h1 h2 ⊢
    by_cases e : m = k
    · subst e
      right
      exact ⟨by rcases h1 with h | h; exact h; exact h.1, by rcases h2 with h | h; exact h; exact h.2⟩
    · have ih := R_trans (t := t) k m (by omega)
      rcases h1 with h1 | h1 <;> rcases h2 with h2 | h2
      · exact .inl (ih i j h1 h2)
      · exact .inr ⟨ih i k h1 h2.1, h2.2⟩
      · exact .inr ⟨h1.1, ih k j h1.2 h2⟩
      · exact .inr ⟨h1.1, h2.2⟩
theorem warsh_trans {n : Nat} {t : List (List Bool)} (ht : Sq n t) {i k j : Nat} (hi : i < n) (hk : k < n) (hj : j < n) (h1 : atT (warsh n t) i k = true) (h2 : atT (warsh n t) k j = true) : atT (warsh n t) i j = true := by
  unfold warsh at *
  rw [warsh_R ht n (Nat.le_refl _) _ _ hi hk] at h1
  rw [warsh_R ht n (Nat.le_refl _) _ _ hk hj] at h2
  rw [warsh_R ht n (Nat.le_refl _) _ _ hi hj]
  exact R_trans n k hk i j h1 h2
theorem R_mono {t : List (List Bool)} : ∀ (k i j : Nat), atT t i j = true → R_ t k i j = true
  | 0, _, _, h => h
  | k + 1, i, j, h => by simp only [R_, Bool.or_eq_true]; exact .inl (R_mono k i j h)
theorem warsh_sub {n : Nat} {t : List (List Bool)} (ht : Sq n t) {i j : Nat} (hi : i < n) (hj : j < n) (h : atT t i j = true) : atT (warsh n t) i j = true := by
  unfold warsh; rw [warsh_R ht n (Nat.le_refl _) _ _ hi hj]; exact R_mono n i j h
/-- The closure is the least. -/
theorem R_least {n : Nat} {t : List (List Bool)} {S : Nat → Nat → Prop} (hs : ∀ i j, i < n → j < n → atT t i j = true → S i j) (ht : ∀ i k j, i < n → k < n → j < n → S i k → S k j → S i j) : ∀ (k i j : Nat), k ≤ n → i < n → j < n → R_ t k i j = true → S i j
  | 0, i, j, _, hi, hj, h => hs i j hi hj h
  | k + 1, i, j, hk, hi, hj, h => by
    simp only [R_, Bool.or_eq_true, Bool.and_eq_true] at h
    rcases h with h | h
    · exact R_least hs ht k i j (by omega) hi hj h
    · exact ht i k j hi (by omega) hj (R_least hs ht k i k (by omega) hi (by omega) h.1) (R_least hs ht k k j (by omega) (by omega) hj h.2)
theorem warsh_least {n : Nat} {t : List (List Bool)} (h : Sq n t) {S : Nat → Nat → Prop} (hs : ∀ i j, i < n → j < n → atT t i j = true → S i j) (ht : ∀ i k j, i < n → k < n → j < n → S i k → S k j → S i j) {i j : Nat} (hi : i < n) (hj : j < n) (hw : atT (warsh n t) i j = true) : S i j := by
  unfold warsh at hw
  rw [warsh_R h n (Nat.le_refl _) _ _ hi hj] at hw
  exact R_least hs ht n i j (Nat.le_refl _) hi hj hw
end Go.AM

namespace Go.Proofs.R
open Go.AM Go
set_option maxRecDepth 100000
set_option maxHeartbeats 2000000
theorem rclosure_r (n : Nat) (t : List (List Bool)) (hs : Sq n t) (hn : n ≤ 512) : Reads Try.prog 25 true [.rsl 1 (rowsR t)] (.rsl 1 (rowsR (warsh n t))) := by
  have hlen := hs.len
  have hrl := rowsR_len t
  refine Reads.bodyF (rs := [.tmp 2]) Try.func25 rfl Try.ntmps25 rfl (by simp) ?_
  generalize hQr : retQ _ _ _ = Qr
  refine AW.seq fun K1 hK1 => ?_
  -- region 0
  refine AW.regionK 0 (fun _ => none) [0] [] ?_
  simp only [go_sem, reduceIte, reduceCtorEq, Nat.reduceAdd, Nat.reduceMul, Nat.reduceEqDiff, Nat.reduceLT, Nat.reduceLeDiff, Nat.reduceSub, Nat.reducePow, Nat.reduceBEq, Int.reduceToNat, List.reduceReplicate, hrl, hlen]
  repeat with_reducible refine cj ?_ ?_
  all_goals try first | omega
  refine hK1 _ _ _ ?_; clear hK1
  refine AW.seq fun K2 hK2 => ?_
  -- region 1
  refine AW.regionK 0 (fun _ => none) [0, 3] [] ?_
  simp only [go_sem, reduceIte, reduceCtorEq, Nat.reduceAdd, Nat.reduceMul, Nat.reduceEqDiff, Nat.reduceLT, Nat.reduceLeDiff, Nat.reduceSub, Nat.reducePow, Nat.reduceBEq, Int.reduceToNat, List.reduceReplicate, hrl, hlen]
  repeat with_reducible refine cj ?_ ?_
  all_goals try first | omega
  refine hK2 _ _ _ ?_; clear hK2
  refine AW.seq fun K3 hK3 => ?_
  -- region 2
  refine AW.regionK 0 (fun _ => none) [0, 3, 4] [] ?_
  simp only [go_sem, reduceIte, reduceCtorEq, Nat.reduceAdd, Nat.reduceMul, Nat.reduceEqDiff, Nat.reduceLT, Nat.reduceLeDiff, Nat.reduceSub, Nat.reducePow, Nat.reduceBEq, Int.reduceToNat, List.reduceReplicate, hrl, hlen]
  repeat with_reducible refine cj ?_ ?_
  all_goals try first | omega
  refine hK3 _ _ _ ?_; clear hK3
  refine AW.seq fun K4 hK4 => ?_
  refine AW.seq fun K5 hK5 => ?_
  -- region 3
  refine AW.regionK 0 (fun _ => none) [0, 3, 4, 5] [] ?_
  simp only [go_sem, reduceIte, reduceCtorEq, Nat.reduceAdd, Nat.reduceMul, Nat.reduceEqDiff, Nat.reduceLT, Nat.reduceLeDiff, Nat.reduceSub, Nat.reducePow, Nat.reduceBEq, Int.reduceToNat, List.reduceReplicate, hrl, hlen]
  repeat with_reducible refine cj ?_ ?_
  all_goals try first | omega
  refine hK5 _ _ _ ?_; clear hK5
  refine AW.block ?_
  refine AW.nilOwn 4 200 1 (by simp only [go_sem, reduceIte, Nat.reduceEqDiff]) ?_
  refine AW.keep [0, 3, 4, 5] [200] ?_
  simp only [go_sem, reduceIte, Nat.reduceEqDiff]
  -- loop 1
  refine AW.loopE (fun mm ee ss kk => ∃ (i g v : Nat), n - i = mm ∧ ee = [(0, .rsl 1 (rowsR t)), (3, .int .i64 n), (4, .sl ⟨200, g, none⟩ 0 i none), (5, .int .i64 (i : Nat))] ∧ ss = [(200, some ⟨g, v, 1, rowsO (t.take i)⟩)] ∧ (i ≤ n)) ?_ ?_
  · refine ⟨_, 0, ?_, ?_, rfl, ?henv, ?hstore, ?hst⟩
    case henv =>
      repeat' (first | rfl | refine env_cons ?_ ?_ | refine st_cons ?_ ?_ ?_ ?_ | refine int_eq ?_ | refine bool_eq ?_ | refine rsl_eq ?_ | refine osl_eq ?_ | refine sl_eq ?_ ?_ ?_ | refine ptr_eq ?_ ?_ ?_ | refine agg_eq ?_ | refine es_cons ?_ ?_ | refine row_cons ?_ ?_)
      all_goals (first | (simp; done) | omega | (simp; omega))
    case hstore =>
      repeat' (first | rfl | refine env_cons ?_ ?_ | refine st_cons ?_ ?_ ?_ ?_ | refine int_eq ?_ | refine bool_eq ?_ | refine rsl_eq ?_ | refine osl_eq ?_ | refine sl_eq ?_ ?_ ?_ | refine ptr_eq ?_ ?_ ?_ | refine agg_eq ?_ | refine es_cons ?_ ?_ | refine row_cons ?_ ?_)
      all_goals (first | (simp; done) | omega | (simp; omega))
    case hst =>
      first | trivial | omega | (simp; done) | (simp; omega)
  rintro mm ee ss kk ⟨i, g, v, rfl, rfl, rfl, hI⟩
  generalize hQl1 : thenQ _ _ = Ql1
  refine AW.seq fun K6 hK6 => ?_
  refine AW.seq fun K7 hK7 => ?_
  -- region 4
  refine AW.regionK 0 (fun _ => none) [0, 3, 4, 5, 13] [200] ?_
  simp only [go_sem, reduceIte, reduceCtorEq, Nat.reduceAdd, Nat.reduceMul, Nat.reduceEqDiff, Nat.reduceLT, Nat.reduceLeDiff, Nat.reduceSub, Nat.reducePow, Nat.reduceBEq, Int.reduceToNat, List.reduceReplicate, hrl, hlen]
  repeat with_reducible refine cj ?_ ?_
  all_goals try first | omega
  refine hK7 _ _ _ ?_; clear hK7
  -- cond 1
  refine AW.cond rfl (by simp only [go_sem, reduceIte, reduceCtorEq, Nat.reduceAdd, Nat.reduceMul, Nat.reduceEqDiff, Nat.reduceLT, Nat.reduceLeDiff, Nat.reduceSub, Nat.reducePow, Nat.reduceBEq, Int.reduceToNat, List.reduceReplicate]) ?_ ?_
  · intro hb
    try simp only [hB, decide_eq_true_eq, decide_eq_false_iff_not] at hb
    have hgr := rowsR_get (t := t) (i := i) (by omega)
    have hrw := hs.rowLen (i := i) (by omega)
    have hti := take_succT (t := t) (i := i) (by omega)
    have htl : (rowsO (t.take i)).length = i := by rw [rowsO_len]; simp; omega
    have htk : (rowsO (t.take i)).take i = rowsO (t.take i) := List.take_of_length_le (by omega)
    generalize hb' : rowT t i = b at *
    have hap := rowsO_app (t.take i) b
    have hgl := fun x => app_get (rowsO (t.take i)) x htl
    have hsl := fun x y => app_set (rowsO (t.take i)) x y htl
    have hll := fun x => app_len (rowsO (t.take i)) x htl
    refine AW.skip ?_
    refine hK6 _ _ _ ?_; clear hK6
    refine AW.seq fun K8 hK8 => ?_
    refine AW.block ?_
    -- region 6
    refine AW.regionK 0 (fun _ => none) [0, 3, 4, 5] [22, 200] ?_
    simp only [go_sem, reduceIte, reduceCtorEq, Nat.reduceAdd, Nat.reduceMul, Nat.reduceEqDiff, Nat.reduceLT, Nat.reduceLeDiff, Nat.reduceSub, Nat.reducePow, Nat.reduceBEq, Int.reduceToNat, List.reduceReplicate, hrl, hlen, hgr, htk, htl, hrw]
    repeat with_reducible refine cj ?_ ?_
    all_goals try first | omega | (simp [scP, scalar]; done) | exact scP_words _ | exact scP_ints _ | exact scP_bools _
    refine hK8 _ _ _ ?_; clear hK8
    refine AW.adoptK 200 i 0 22 ?_
    simp only [go_sem, reduceIte, Nat.reduceEqDiff, hgl, hsl, hll]
    refine ⟨by decide, by rw [hrw], noOsl_bools _, ?_⟩
    refine AW.keep [0, 3, 4, 5] [200] ?_
    simp only [go_sem, reduceIte, Nat.reduceEqDiff, hap]
    -- region 5
    refine AW.regionK 0 (fun _ => none) [0, 3, 4, 5] [200] ?_
    simp only [go_sem, reduceIte, reduceCtorEq, Nat.reduceAdd, Nat.reduceMul, Nat.reduceEqDiff, Nat.reduceLT, Nat.reduceLeDiff, Nat.reduceSub, Nat.reducePow, Nat.reduceBEq, Int.reduceToNat, List.reduceReplicate, hrl, hlen]
    repeat with_reducible refine cj ?_ ?_
    all_goals try first | omega
    rw [← hQl1]
    change Exists _
    refine ⟨_, ?hm, i + 1, ?_, ?_, rfl, ?henv, ?hstore, ?hst⟩
    case henv =>
      repeat' (first | rfl | refine env_cons ?_ ?_ | refine st_cons ?_ ?_ ?_ ?_ | refine int_eq ?_ | refine bool_eq ?_ | refine rsl_eq ?_ | refine osl_eq ?_ | refine sl_eq ?_ ?_ ?_ | refine ptr_eq ?_ ?_ ?_ | refine agg_eq ?_ | refine es_cons ?_ ?_ | refine row_cons ?_ ?_)
      all_goals (first | (simp; done) | omega | (simp; omega))
    case hstore =>
      repeat' (first | rfl | refine env_cons ?_ ?_ | refine st_cons ?_ ?_ ?_ ?_ | refine int_eq ?_ | refine bool_eq ?_ | refine rsl_eq ?_ | refine osl_eq ?_ | refine sl_eq ?_ ?_ ?_ | refine ptr_eq ?_ ?_ ?_ | refine agg_eq ?_ | refine es_cons ?_ ?_ | refine row_cons ?_ ?_)
      all_goals (rw [hti])
    case hst =>
      first | trivial | omega | (simp; done) | (simp; omega)
    case hm => omega
  · intro hb
    try simp only [hB, decide_eq_true_eq, decide_eq_false_iff_not] at hb
    have hin : i = n := by omega
    subst hin
    rw [List.take_of_length_le (by omega : t.length ≤ i)]
    refine AW.exit ?_
    rw [← hQl1]
    refine hK4 _ _ _ ?_; clear hK4
    refine AW.seq fun K9 hK9 => ?_
    refine AW.seq fun K10 hK10 => ?_
    -- region 7
    refine AW.regionK 0 (fun _ => none) [3, 4, 6] [200] ?_
    simp only [go_sem, reduceIte, reduceCtorEq, Nat.reduceAdd, Nat.reduceMul, Nat.reduceEqDiff, Nat.reduceLT, Nat.reduceLeDiff, Nat.reduceSub, Nat.reducePow, Nat.reduceBEq, Int.reduceToNat, List.reduceReplicate, hrl, hlen]
    repeat with_reducible refine cj ?_ ?_
    all_goals try first | omega
    refine hK10 _ _ _ ?_; clear hK10
    refine AW.block ?_
    -- loop 2
    refine AW.loopE (fun mm ee ss kk => ∃ (k g v : Nat), i - k = mm ∧ ee = [(3, .int .i64 i), (4, .sl ⟨200, g, none⟩ 0 i none), (6, .int .i64 (k : Nat))] ∧ ss = [(200, some ⟨g, v, 1, rowsO (iter (warshK i) k t)⟩)] ∧ (k ≤ i)) ?_ ?_
    · refine ⟨_, 0, ?_, ?_, rfl, ?henv, ?hstore, ?hst⟩
      case henv =>
        repeat' (first | rfl | refine env_cons ?_ ?_ | refine st_cons ?_ ?_ ?_ ?_ | refine int_eq ?_ | refine bool_eq ?_ | refine rsl_eq ?_ | refine osl_eq ?_ | refine sl_eq ?_ ?_ ?_ | refine ptr_eq ?_ ?_ ?_ | refine agg_eq ?_ | refine es_cons ?_ ?_ | refine row_cons ?_ ?_)
        all_goals (first | (simp; done) | omega | (simp; omega))
      case hstore =>
        repeat' (first | rfl | refine env_cons ?_ ?_ | refine st_cons ?_ ?_ ?_ ?_ | refine int_eq ?_ | refine bool_eq ?_ | refine rsl_eq ?_ | refine osl_eq ?_ | refine sl_eq ?_ ?_ ?_ | refine ptr_eq ?_ ?_ ?_ | refine agg_eq ?_ | refine es_cons ?_ ?_ | refine row_cons ?_ ?_)
        all_goals (first | (simp; done) | omega | (simp; omega))
      case hst =>
        first | trivial | omega | (simp; done) | (simp; omega)
    rintro mm ee ss kk ⟨k, g, v, rfl, rfl, rfl, hI⟩
    generalize hQl2 : thenQ _ _ = Ql2
    refine AW.seq fun K11 hK11 => ?_
    refine AW.seq fun K12 hK12 => ?_
    -- region 8
    refine AW.regionK 0 (fun _ => none) [3, 4, 6, 27] [200] ?_
    simp only [go_sem, reduceIte, reduceCtorEq, Nat.reduceAdd, Nat.reduceMul, Nat.reduceEqDiff, Nat.reduceLT, Nat.reduceLeDiff, Nat.reduceSub, Nat.reducePow, Nat.reduceBEq, Int.reduceToNat, List.reduceReplicate, hrl, hlen]
    repeat with_reducible refine cj ?_ ?_
    all_goals try first | omega
    refine hK12 _ _ _ ?_; clear hK12
    -- cond 2
    refine AW.cond rfl (by simp only [go_sem, reduceIte, reduceCtorEq, Nat.reduceAdd, Nat.reduceMul, Nat.reduceEqDiff, Nat.reduceLT, Nat.reduceLeDiff, Nat.reduceSub, Nat.reducePow, Nat.reduceBEq, Int.reduceToNat, List.reduceReplicate]) ?_ ?_
    · intro hb
      try simp only [hB, decide_eq_true_eq, decide_eq_false_iff_not] at hb
      refine AW.skip ?_
      refine hK11 _ _ _ ?_; clear hK11
      refine AW.seq fun K13 hK13 => ?_
      refine AW.block ?_
      refine AW.seq fun K14 hK14 => ?_
      -- region 10
      refine AW.regionK 0 (fun _ => none) [3, 4, 6, 7] [200] ?_
      simp only [go_sem, reduceIte, reduceCtorEq, Nat.reduceAdd, Nat.reduceMul, Nat.reduceEqDiff, Nat.reduceLT, Nat.reduceLeDiff, Nat.reduceSub, Nat.reducePow, Nat.reduceBEq, Int.reduceToNat, List.reduceReplicate, hrl, hlen]
      repeat with_reducible refine cj ?_ ?_
      all_goals try first | omega
      refine hK14 _ _ _ ?_; clear hK14
      refine AW.block ?_
      -- loop 3
      refine AW.loopE (fun mm ee ss kk => ∃ (q g v : Nat), i - q = mm ∧ ee = [(3, .int .i64 i), (4, .sl ⟨200, g, none⟩ 0 i none), (6, .int .i64 (k : Nat)), (7, .int .i64 (q : Nat))] ∧ ss = [(200, some ⟨g, v, 1, rowsO (iter (warshI k) q (iter (warshK i) k t))⟩)] ∧ (q ≤ i)) ?_ ?_
      · refine ⟨_, 0, ?_, ?_, rfl, ?henv, ?hstore, ?hst⟩
        case henv =>
          repeat' (first | rfl | refine env_cons ?_ ?_ | refine st_cons ?_ ?_ ?_ ?_ | refine int_eq ?_ | refine bool_eq ?_ | refine rsl_eq ?_ | refine osl_eq ?_ | refine sl_eq ?_ ?_ ?_ | refine ptr_eq ?_ ?_ ?_ | refine agg_eq ?_ | refine es_cons ?_ ?_ | refine row_cons ?_ ?_)
          all_goals (first | (simp; done) | omega | (simp; omega))
        case hstore =>
          repeat' (first | rfl | refine env_cons ?_ ?_ | refine st_cons ?_ ?_ ?_ ?_ | refine int_eq ?_ | refine bool_eq ?_ | refine rsl_eq ?_ | refine osl_eq ?_ | refine sl_eq ?_ ?_ ?_ | refine ptr_eq ?_ ?_ ?_ | refine agg_eq ?_ | refine es_cons ?_ ?_ | refine row_cons ?_ ?_)
          all_goals (first | (simp; done) | omega | (simp; omega))
        case hst =>
          first | trivial | omega | (simp; done) | (simp; omega)
      rintro mm ee ss kk ⟨q, g, v, rfl, rfl, rfl, hI⟩
      generalize hQl3 : thenQ _ _ = Ql3
      refine AW.seq fun K15 hK15 => ?_
      refine AW.seq fun K16 hK16 => ?_
      -- region 11
      refine AW.regionK 0 (fun _ => none) [3, 4, 6, 7, 32] [200] ?_
      simp only [go_sem, reduceIte, reduceCtorEq, Nat.reduceAdd, Nat.reduceMul, Nat.reduceEqDiff, Nat.reduceLT, Nat.reduceLeDiff, Nat.reduceSub, Nat.reducePow, Nat.reduceBEq, Int.reduceToNat, List.reduceReplicate, hrl, hlen]
      repeat with_reducible refine cj ?_ ?_
      all_goals try first | omega
      refine hK16 _ _ _ ?_; clear hK16
      -- cond 3
      refine AW.cond rfl (by simp only [go_sem, reduceIte, reduceCtorEq, Nat.reduceAdd, Nat.reduceMul, Nat.reduceEqDiff, Nat.reduceLT, Nat.reduceLeDiff, Nat.reduceSub, Nat.reducePow, Nat.reduceBEq, Int.reduceToNat, List.reduceReplicate]) ?_ ?_
      · intro hb
        try simp only [hB, decide_eq_true_eq, decide_eq_false_iff_not] at hb
        have hsu : Sq i (iter (warshI k) q (iter (warshK i) k t)) := (hs.warsh' (by omega)).warshK' (by omega) (by omega)
        have hus : iter (warshI k) (q + 1) (iter (warshK i) k t) = warshI k q (iter (warshI k) q (iter (warshK i) k t)) := rfl
        rw [warshI_eq] at hus
        generalize hU : iter (warshI k) q (iter (warshK i) k t) = U at *
        have hol := rowsO_len U
        have hul := hsu.len
        have hgq := rowsO_get (t := U) (i := q) (by omega)
        have hgk := rowsO_get (t := U) (i := k) (by omega)
        have hrq := hsu.rowLen (i := q) (by omega)
        have hrk := hsu.rowLen (i := k) (by omega)
        have hgb := bools_getD (l := rowT U q) (i := k) (by omega)
        have hat : (rowT U q).getD k false = atT U q k := rfl
        rw [hat] at hgb
        have hset := rowsO_set U q
        have hss : ∀ x : List AV, ((rowsO U).set q x).getD q [] = x := fun x => Go.AM.getD_set_eq (by omega) _ _
        have hfix : (rowsO U).set q [.osl 1 (bools (rowT U q))] = rowsO U := by rw [← hgq]; exact set_getD_self _ _ _
        have hC : ∀ j, j < i → ∃ C : List Bool, ((rowsO U).set q [.osl 1 (bools (orB (rowT U q) (rowT U k) j))]).getD k [] = [.osl 1 (bools C)] ∧ C.length = i ∧ C.getD j false = (rowT U k).getD j false := fun j hj => by
          by_cases e : q = k
          · refine ⟨orB (rowT U q) (rowT U k) j, by rw [← e, hss], by rw [orB_len (by omega)]; exact hrq, ?_⟩
            rw [orB_get (by omega) (Nat.le_refl _), e]
          · exact ⟨rowT U k, by rw [Go.AM.getD_set_ne e, hgk], hrk, rfl⟩
        refine AW.skip ?_
        refine hK15 _ _ _ ?_; clear hK15
        refine AW.seq fun K17 hK17 => ?_
        refine AW.block ?_
        refine AW.seq fun K18 hK18 => ?_
        refine AW.seq fun K19 hK19 => ?_
        -- region 13
        refine AW.regionK 0 (fun _ => none) [3, 4, 6, 7, 42] [200] ?_
        simp only [go_sem, reduceIte, reduceCtorEq, Nat.reduceAdd, Nat.reduceMul, Nat.reduceEqDiff, Nat.reduceLT, Nat.reduceLeDiff, Nat.reduceSub, Nat.reducePow, Nat.reduceBEq, Int.reduceToNat, List.reduceReplicate, hrl, hlen, hgq, hrq, hgb]
        repeat with_reducible refine cj ?_ ?_
        all_goals try first | omega
        refine hK19 _ _ _ ?_; clear hK19
        -- cond 4
        refine AW.cond rfl (by simp only [go_sem, reduceIte, reduceCtorEq, Nat.reduceAdd, Nat.reduceMul, Nat.reduceEqDiff, Nat.reduceLT, Nat.reduceLeDiff, Nat.reduceSub, Nat.reducePow, Nat.reduceBEq, Int.reduceToNat, List.reduceReplicate]) ?_ ?_
        · intro hb
          try simp only [hB, decide_eq_true_eq, decide_eq_false_iff_not] at hb
          rw [if_neg (by rw [hb]; simp)] at hus
          refine AW.exit ?_
          refine hK17 _ _ _ ?_; clear hK17
          -- region 12
          refine AW.regionK 0 (fun _ => none) [3, 4, 6, 7] [200] ?_
          simp only [go_sem, reduceIte, reduceCtorEq, Nat.reduceAdd, Nat.reduceMul, Nat.reduceEqDiff, Nat.reduceLT, Nat.reduceLeDiff, Nat.reduceSub, Nat.reducePow, Nat.reduceBEq, Int.reduceToNat, List.reduceReplicate, hrl, hlen]
          repeat with_reducible refine cj ?_ ?_
          all_goals try first | omega
          rw [← hQl3]
          change Exists _
          refine ⟨_, ?hm, q + 1, ?_, ?_, rfl, ?henv, ?hstore, ?hst⟩
          case henv =>
            repeat' (first | rfl | refine env_cons ?_ ?_ | refine st_cons ?_ ?_ ?_ ?_ | refine int_eq ?_ | refine bool_eq ?_ | refine rsl_eq ?_ | refine osl_eq ?_ | refine sl_eq ?_ ?_ ?_ | refine ptr_eq ?_ ?_ ?_ | refine agg_eq ?_ | refine es_cons ?_ ?_ | refine row_cons ?_ ?_)
            all_goals (first | (simp; done) | omega | (simp; omega))
          case hstore =>
            repeat' (first | rfl | refine env_cons ?_ ?_ | refine st_cons ?_ ?_ ?_ ?_ | refine int_eq ?_ | refine bool_eq ?_ | refine rsl_eq ?_ | refine osl_eq ?_ | refine sl_eq ?_ ?_ ?_ | refine ptr_eq ?_ ?_ ?_ | refine agg_eq ?_ | refine es_cons ?_ ?_ | refine row_cons ?_ ?_)
            all_goals (rw [hus])
          case hst =>
            first | trivial | omega | (simp; done) | (simp; omega)
          case hm => omega
        · intro hb
          try simp only [hB, decide_eq_true_eq, decide_eq_false_iff_not] at hb
          rw [if_pos hb] at hus
          unfold orRow at hus
          generalize ha' : rowT U q = a at *
          generalize hb' : rowT U k = b at *
          refine AW.skip ?_
          refine hK18 _ _ _ ?_; clear hK18
          refine AW.seq fun K20 hK20 => ?_
          -- region 14
          refine AW.regionK 0 (fun _ => none) [3, 4, 6, 7, 8] [200] ?_
          simp only [go_sem, reduceIte, reduceCtorEq, Nat.reduceAdd, Nat.reduceMul, Nat.reduceEqDiff, Nat.reduceLT, Nat.reduceLeDiff, Nat.reduceSub, Nat.reducePow, Nat.reduceBEq, Int.reduceToNat, List.reduceReplicate, hrl, hlen]
          repeat with_reducible refine cj ?_ ?_
          all_goals try first | omega
          refine hK20 _ _ _ ?_; clear hK20
          refine AW.block ?_
          -- loop 4
          refine AW.loopE (fun mm ee ss kk => ∃ (j g v : Nat), i - j = mm ∧ ee = [(3, .int .i64 i), (4, .sl ⟨200, g, none⟩ 0 i none), (6, .int .i64 (k : Nat)), (7, .int .i64 (q : Nat)), (8, .int .i64 (j : Nat))] ∧ ss = [(200, some ⟨g, v, 1, (rowsO U).set q [.osl 1 (bools (orB a b j))]⟩)] ∧ (j ≤ i)) ?_ ?_
          · refine ⟨_, 0, ?_, ?_, rfl, ?henv, ?hstore, ?hst⟩
            case henv =>
              repeat' (first | rfl | refine env_cons ?_ ?_ | refine st_cons ?_ ?_ ?_ ?_ | refine int_eq ?_ | refine bool_eq ?_ | refine rsl_eq ?_ | refine osl_eq ?_ | refine sl_eq ?_ ?_ ?_ | refine ptr_eq ?_ ?_ ?_ | refine agg_eq ?_ | refine es_cons ?_ ?_ | refine row_cons ?_ ?_)
              all_goals (first | (simp; done) | omega | (simp; omega))
            case hstore =>
              repeat' (first | rfl | refine env_cons ?_ ?_ | refine st_cons ?_ ?_ ?_ ?_ | refine int_eq ?_ | refine bool_eq ?_ | refine rsl_eq ?_ | refine osl_eq ?_ | refine sl_eq ?_ ?_ ?_ | refine ptr_eq ?_ ?_ ?_ | refine agg_eq ?_ | refine es_cons ?_ ?_ | refine row_cons ?_ ?_)
              all_goals (rw [orB_zero, hfix])
            case hst =>
              first | trivial | omega | (simp; done) | (simp; omega)
          rintro mm ee ss kk ⟨j, g, v, rfl, rfl, rfl, hI⟩
          generalize hQl4 : thenQ _ _ = Ql4
          refine AW.seq fun K21 hK21 => ?_
          refine AW.seq fun K22 hK22 => ?_
          -- region 15
          refine AW.regionK 0 (fun _ => none) [3, 4, 6, 7, 8, 45] [200] ?_
          simp only [go_sem, reduceIte, reduceCtorEq, Nat.reduceAdd, Nat.reduceMul, Nat.reduceEqDiff, Nat.reduceLT, Nat.reduceLeDiff, Nat.reduceSub, Nat.reducePow, Nat.reduceBEq, Int.reduceToNat, List.reduceReplicate, hrl, hlen]
          repeat with_reducible refine cj ?_ ?_
          all_goals try first | omega
          refine hK22 _ _ _ ?_; clear hK22
          -- cond 5
          refine AW.cond rfl (by simp only [go_sem, reduceIte, reduceCtorEq, Nat.reduceAdd, Nat.reduceMul, Nat.reduceEqDiff, Nat.reduceLT, Nat.reduceLeDiff, Nat.reduceSub, Nat.reducePow, Nat.reduceBEq, Int.reduceToNat, List.reduceReplicate]) ?_ ?_
          · intro hb
            try simp only [hB, decide_eq_true_eq, decide_eq_false_iff_not] at hb
            obtain ⟨C, hC1, hC2, hC3⟩ := hC j (by omega)
            have hgc := bools_getD (l := C) (i := j) (by omega)
            rw [hC3] at hgc
            have hos := orB_step (a := a) (b := b) (by omega) (j := j) (by omega)
            have hob := orB_len (a := a) (b := b) (by omega) j
            refine AW.skip ?_
            refine hK21 _ _ _ ?_; clear hK21
            refine AW.seq fun K23 hK23 => ?_
            refine AW.block ?_
            refine AW.seq fun K24 hK24 => ?_
            -- region 17
            refine AW.regionK 0 (fun _ => none) [3, 4, 6, 7, 8, 54] [200] ?_
            simp only [go_sem, reduceIte, reduceCtorEq, Nat.reduceAdd, Nat.reduceMul, Nat.reduceEqDiff, Nat.reduceLT, Nat.reduceLeDiff, Nat.reduceSub, Nat.reducePow, Nat.reduceBEq, Int.reduceToNat, List.reduceReplicate, hrl, hlen, hC1, hC2, hgc]
            repeat with_reducible refine cj ?_ ?_
            all_goals try first | omega
            refine hK24 _ _ _ ?_; clear hK24
            -- cond 6
            refine AW.cond rfl (by simp only [go_sem, reduceIte, reduceCtorEq, Nat.reduceAdd, Nat.reduceMul, Nat.reduceEqDiff, Nat.reduceLT, Nat.reduceLeDiff, Nat.reduceSub, Nat.reducePow, Nat.reduceBEq, Int.reduceToNat, List.reduceReplicate]) ?_ ?_
            · intro hb
              try simp only [hB, decide_eq_true_eq, decide_eq_false_iff_not] at hb
              rw [if_pos hb] at hos
              -- region 18
              refine AW.regionK 0 (fun _ => none) [3, 4, 6, 7, 8] [200] ?_
              simp only [go_sem, reduceIte, reduceCtorEq, Nat.reduceAdd, Nat.reduceMul, Nat.reduceEqDiff, Nat.reduceLT, Nat.reduceLeDiff, Nat.reduceSub, Nat.reducePow, Nat.reduceBEq, Int.reduceToNat, List.reduceReplicate, hrl, hlen, hss, hob, hrq, List.set_set]
              repeat with_reducible refine cj ?_ ?_
              all_goals try first | omega
              refine hK23 _ _ _ ?_; clear hK23
              -- region 16
              refine AW.regionK 0 (fun _ => none) [3, 4, 6, 7, 8] [200] ?_
              simp only [go_sem, reduceIte, reduceCtorEq, Nat.reduceAdd, Nat.reduceMul, Nat.reduceEqDiff, Nat.reduceLT, Nat.reduceLeDiff, Nat.reduceSub, Nat.reducePow, Nat.reduceBEq, Int.reduceToNat, List.reduceReplicate, hrl, hlen]
              repeat with_reducible refine cj ?_ ?_
              all_goals try first | omega
              rw [← hQl4]
              change Exists _
              refine ⟨_, ?hm, j + 1, ?_, ?_, rfl, ?henv, ?hstore, ?hst⟩
              case henv =>
                repeat' (first | rfl | refine env_cons ?_ ?_ | refine st_cons ?_ ?_ ?_ ?_ | refine int_eq ?_ | refine bool_eq ?_ | refine rsl_eq ?_ | refine osl_eq ?_ | refine sl_eq ?_ ?_ ?_ | refine ptr_eq ?_ ?_ ?_ | refine agg_eq ?_ | refine es_cons ?_ ?_ | refine row_cons ?_ ?_)
                all_goals (first | (simp; done) | omega | (simp; omega))
              case hstore =>
                repeat' (first | rfl | refine env_cons ?_ ?_ | refine st_cons ?_ ?_ ?_ ?_ | refine int_eq ?_ | refine bool_eq ?_ | refine rsl_eq ?_ | refine osl_eq ?_ | refine sl_eq ?_ ?_ ?_ | refine ptr_eq ?_ ?_ ?_ | refine agg_eq ?_ | refine es_cons ?_ ?_ | refine row_cons ?_ ?_)
                all_goals (rw [hos])
              case hst =>
                first | trivial | omega | (simp; done) | (simp; omega)
              case hm => omega
            · intro hb
              try simp only [hB, decide_eq_true_eq, decide_eq_false_iff_not] at hb
              rw [if_neg (by rw [hb]; simp)] at hos
              refine AW.skip ?_
              refine hK23 _ _ _ ?_; clear hK23
              -- region 16
              refine AW.regionK 0 (fun _ => none) [3, 4, 6, 7, 8] [200] ?_
              simp only [go_sem, reduceIte, reduceCtorEq, Nat.reduceAdd, Nat.reduceMul, Nat.reduceEqDiff, Nat.reduceLT, Nat.reduceLeDiff, Nat.reduceSub, Nat.reducePow, Nat.reduceBEq, Int.reduceToNat, List.reduceReplicate, hrl, hlen]
              repeat with_reducible refine cj ?_ ?_
              all_goals try first | omega
              rw [← hQl4]
              change Exists _
              refine ⟨_, ?hm, j + 1, ?_, ?_, rfl, ?henv, ?hstore, ?hst⟩
              case henv =>
                repeat' (first | rfl | refine env_cons ?_ ?_ | refine st_cons ?_ ?_ ?_ ?_ | refine int_eq ?_ | refine bool_eq ?_ | refine rsl_eq ?_ | refine osl_eq ?_ | refine sl_eq ?_ ?_ ?_ | refine ptr_eq ?_ ?_ ?_ | refine agg_eq ?_ | refine es_cons ?_ ?_ | refine row_cons ?_ ?_)
                all_goals (first | (simp; done) | omega | (simp; omega))
              case hstore =>
                repeat' (first | rfl | refine env_cons ?_ ?_ | refine st_cons ?_ ?_ ?_ ?_ | refine int_eq ?_ | refine bool_eq ?_ | refine rsl_eq ?_ | refine osl_eq ?_ | refine sl_eq ?_ ?_ ?_ | refine ptr_eq ?_ ?_ ?_ | refine agg_eq ?_ | refine es_cons ?_ ?_ | refine row_cons ?_ ?_)
                all_goals (rw [hos])
              case hst =>
                first | trivial | omega | (simp; done) | (simp; omega)
              case hm => omega
          · intro hb
            try simp only [hB, decide_eq_true_eq, decide_eq_false_iff_not] at hb
            have hj : j = i := by omega
            subst hj
            rw [orB_all (by omega) (by omega), hset]
            refine AW.exit ?_
            rw [← hQl4]
            refine hK17 _ _ _ ?_; clear hK17
            -- region 12
            refine AW.regionK 0 (fun _ => none) [3, 4, 6, 7] [200] ?_
            simp only [go_sem, reduceIte, reduceCtorEq, Nat.reduceAdd, Nat.reduceMul, Nat.reduceEqDiff, Nat.reduceLT, Nat.reduceLeDiff, Nat.reduceSub, Nat.reducePow, Nat.reduceBEq, Int.reduceToNat, List.reduceReplicate, hrl, hlen]
            repeat with_reducible refine cj ?_ ?_
            all_goals try first | omega
            rw [← hQl3]
            change Exists _
            refine ⟨_, ?hm, q + 1, ?_, ?_, rfl, ?henv, ?hstore, ?hst⟩
            case henv =>
              repeat' (first | rfl | refine env_cons ?_ ?_ | refine st_cons ?_ ?_ ?_ ?_ | refine int_eq ?_ | refine bool_eq ?_ | refine rsl_eq ?_ | refine osl_eq ?_ | refine sl_eq ?_ ?_ ?_ | refine ptr_eq ?_ ?_ ?_ | refine agg_eq ?_ | refine es_cons ?_ ?_ | refine row_cons ?_ ?_)
              all_goals (first | (simp; done) | omega | (simp; omega))
            case hstore =>
              repeat' (first | rfl | refine env_cons ?_ ?_ | refine st_cons ?_ ?_ ?_ ?_ | refine int_eq ?_ | refine bool_eq ?_ | refine rsl_eq ?_ | refine osl_eq ?_ | refine sl_eq ?_ ?_ ?_ | refine ptr_eq ?_ ?_ ?_ | refine agg_eq ?_ | refine es_cons ?_ ?_ | refine row_cons ?_ ?_)
              all_goals (rw [hus])
            case hst =>
              first | trivial | omega | (simp; done) | (simp; omega)
            case hm => omega
      · intro hb
        try simp only [hB, decide_eq_true_eq, decide_eq_false_iff_not] at hb
        have hq : q = i := by omega
        subst hq
        refine AW.exit ?_
        rw [← hQl3]
        refine hK13 _ _ _ ?_; clear hK13
        -- region 9
        refine AW.regionK 0 (fun _ => none) [3, 4, 6] [200] ?_
        simp only [go_sem, reduceIte, reduceCtorEq, Nat.reduceAdd, Nat.reduceMul, Nat.reduceEqDiff, Nat.reduceLT, Nat.reduceLeDiff, Nat.reduceSub, Nat.reducePow, Nat.reduceBEq, Int.reduceToNat, List.reduceReplicate, hrl, hlen]
        repeat with_reducible refine cj ?_ ?_
        all_goals try first | omega
        rw [← hQl2]
        change Exists _
        refine ⟨_, ?hm, k + 1, ?_, ?_, rfl, ?henv, ?hstore, ?hst⟩
        case henv =>
          repeat' (first | rfl | refine env_cons ?_ ?_ | refine st_cons ?_ ?_ ?_ ?_ | refine int_eq ?_ | refine bool_eq ?_ | refine rsl_eq ?_ | refine osl_eq ?_ | refine sl_eq ?_ ?_ ?_ | refine ptr_eq ?_ ?_ ?_ | refine agg_eq ?_ | refine es_cons ?_ ?_ | refine row_cons ?_ ?_)
          all_goals (first | (simp; done) | omega | (simp; omega))
        case hstore =>
          repeat' (first | rfl | refine env_cons ?_ ?_ | refine st_cons ?_ ?_ ?_ ?_ | refine int_eq ?_ | refine bool_eq ?_ | refine rsl_eq ?_ | refine osl_eq ?_ | refine sl_eq ?_ ?_ ?_ | refine ptr_eq ?_ ?_ ?_ | refine agg_eq ?_ | refine es_cons ?_ ?_ | refine row_cons ?_ ?_)
          all_goals rfl
        case hst =>
          first | trivial | omega | (simp; done) | (simp; omega)
        case hm => omega
    · intro hb
      try simp only [hB, decide_eq_true_eq, decide_eq_false_iff_not] at hb
      refine AW.exit ?_
      rw [← hQl2]
      refine hK9 _ _ _ ?_; clear hK9
      refine AW.seq fun K25 hK25 => ?_
      -- region 19
      refine AW.regionK 0 (fun _ => none) [2] [200] ?_
      simp only [go_sem, reduceIte, reduceCtorEq, Nat.reduceAdd, Nat.reduceMul, Nat.reduceEqDiff, Nat.reduceLT, Nat.reduceLeDiff, Nat.reduceSub, Nat.reducePow, Nat.reduceBEq, Int.reduceToNat, List.reduceReplicate, hrl, hlen]
      repeat with_reducible refine cj ?_ ?_
      all_goals try first | omega
      refine hK25 _ _ _ ?_; clear hK25
      refine AW.ret ?_
      rw [← hQr]
      simp only [go_sem, reduceIte, reduceCtorEq, Nat.reduceAdd, Nat.reduceMul, Nat.reduceEqDiff, Nat.reduceLT, Nat.reduceLeDiff, Nat.reduceSub, Nat.reducePow, Nat.reduceBEq, Int.reduceToNat, List.reduceReplicate, hrl, hlen]
      have hk : k = i := by omega
      subst hk
      rw [List.take_of_length_le (by rw [rowsO_len, (hs.warsh' (Nat.le_refl _)).len]; exact Nat.le_refl _), vwcF_rowsO]
      exact Wk.refl _
end Go.Proofs.R

namespace Go.Proofs.R
open Go.AM Go
set_option maxRecDepth 100000
set_option maxHeartbeats 2000000
end Go.Proofs.R

namespace Go.Proofs.R
open Go.AM Go
set_option maxRecDepth 100000
set_option maxHeartbeats 2000000
end Go.Proofs.R

/- The least topological order. -/
namespace Go.AM
theorem filter_lt {p q : Nat → Bool} {l : List Nat} (h : ∀ x ∈ l, p x = true → q x = true) (hx : ∃ x ∈ l, q x = true ∧ p x = false) : (l.filter p).length < (l.filter q).length := by
  induction l with
  | nil => obtain ⟨x, hx, _⟩ := hx; cases hx
  | cons a l ih =>
    have hle : (l.filter p).length ≤ (l.filter q).length := by
      have := List.Sublist.length_le (l.filter p |>.filter_sublist (p := q))
      have e : (l.filter p).filter q = l.filter p := by
        rw [List.filter_eq_self]
        intro x hx; exact h x (by simp [(List.mem_filter.1 hx).1]) (List.mem_filter.1 hx).2
      have e2 : (l.filter p).filter q = (l.filter q).filter p := by rw [List.filter_filter, List.filter_filter]; congr 1; funext x; exact Bool.and_comm _ _
      rw [← e, e2]; exact List.length_filter_le _ _
    obtain ⟨x, hx, h1, h2⟩ := hx
    rcases List.mem_cons.1 hx with rfl | hx
    · simp only [List.filter_cons, h1, h2, if_true, Bool.false_eq_true, if_false, List.length_cons]; omega
    · have ih := ih (fun y hy => h y (by simp [hy])) ⟨x, hx, h1, h2⟩
      have ha := h a (by simp)
      simp only [List.filter_cons]
      cases hp : p a
      · cases hq : q a
        · simpa using ih
        · simp only [Bool.false_eq_true, if_false, if_true, List.length_cons]; omega
      · rw [ha hp]; simp only [if_true, List.length_cons]; omega
def freeO (n : Nat) (t : List (List Bool)) (out : List Nat) (i : Nat) : Bool := !out.contains i && (List.range n).all fun k => !atT t k i || out.contains k
def nextO (n : Nat) (t : List (List Bool)) (out : List Nat) : Option Nat := (List.range n).find? (freeO n t out)
def ordO (n : Nat) (t : List (List Bool)) : Nat → List Nat → List Nat
  | 0, out => out
  | m + 1, out => match nextO n t out with
    | some i => ordO n t m (out ++ [i])
    | none => out
theorem freeO_iff {n : Nat} {t : List (List Bool)} {out : List Nat} {i : Nat} : freeO n t out i = true ↔ i ∉ out ∧ ∀ k, k < n → atT t k i = true → k ∈ out := by
  simp only [freeO, Bool.and_eq_true, Bool.not_eq_true', List.all_eq_true, List.mem_range, Bool.or_eq_true]
  constructor
  · rintro ⟨h1, h2⟩
    refine ⟨fun h => (by simp [h] at h1), fun k hk ha => ?_⟩
    rcases h2 k hk with h | h
    · rw [ha] at h; cases h
    · simpa using h
  · rintro ⟨h1, h2⟩
    refine ⟨by simpa using h1, fun k hk => ?_⟩
    cases ha : atT t k i with
    | false => exact .inl rfl
    | true => exact .inr (by simpa using h2 k hk ha)
theorem acyc_iff {n : Nat} {t : List (List Bool)} : acyc n t = true ↔ ∀ i, i < n → atT (warsh n t) i i = false := by
  unfold acyc; rw [List.all_eq_true]
  constructor
  · intro h i hi; have := h i (List.mem_range.2 hi); simpa using this
  · intro h i hi; rw [h i (List.mem_range.1 hi)]; rfl
theorem exists_free {n : Nat} {t : List (List Bool)} (hs : Sq n t) (ha : acyc n t = true) {out : List Nat} : ∀ (m i : Nat), i < n → i ∉ out → ((List.range n).filter fun k => atT (warsh n t) k i && !out.contains k).length ≤ m → ∃ j, j < n ∧ freeO n t out j = true := by
  have hac := acyc_iff.1 ha
  intro m
  induction m with
  | zero =>
    intro i hi ho hl
    refine ⟨i, hi, freeO_iff.2 ⟨ho, fun k hk h => ?_⟩⟩
    rcases Classical.em (k ∈ out) with h1 | h1
    · exact h1
    · exfalso
      have hm : k ∈ (List.range n).filter fun k => atT (warsh n t) k i && !out.contains k := by
        rw [List.mem_filter]; exact ⟨List.mem_range.2 hk, by simp [warsh_sub hs hk hi h, h1]⟩
      have := List.length_pos_of_mem hm
      omega
  | succ m ih =>
    intro i hi ho hl
    by_cases hf : freeO n t out i = true
    · exact ⟨i, hi, hf⟩
    · have : ∃ k, k < n ∧ atT t k i = true ∧ k ∉ out := by
        rcases Classical.em (∃ k, k < n ∧ atT t k i = true ∧ k ∉ out) with h | h
        · exact h
        · exact absurd (freeO_iff.2 ⟨ho, fun k hk h1 => by
            rcases Classical.em (k ∈ out) with h2 | h2
            · exact h2
            · exact absurd ⟨k, hk, h1, h2⟩ h⟩) hf
      obtain ⟨k, hk, h1, h2⟩ := this
      have hki := warsh_sub hs hk hi h1
      refine ih k hk h2 (Nat.le_of_lt_succ (Nat.lt_of_lt_of_le (filter_lt (fun x hx hp => ?_) ⟨k, List.mem_range.2 hk, ?_, ?_⟩) hl))
      · simp only [Bool.and_eq_true] at hp ⊢
        exact ⟨warsh_trans hs (List.mem_range.1 hx) hk hi hp.1 hki, hp.2⟩
      · simp [hki, h2]
      · rw [hac k hk]; rfl
structure OrdI (n : Nat) (t : List (List Bool)) (out : List Nat) : Prop where
  nd : out.Nodup
  rng : ∀ i ∈ out, i < n
  top : ∀ (q i k : Nat), out[q]? = some i → k < n → atT t k i = true → ∃ p : Nat, p < q ∧ out[p]? = some k
theorem OrdI.closed {n : Nat} {t : List (List Bool)} {out : List Nat} (h : OrdI n t out) {i k : Nat} (hi : i ∈ out) (hk : k < n) (ha : atT t k i = true) : k ∈ out := by
  obtain ⟨q, hq, rfl⟩ := List.mem_iff_getElem.1 hi
  obtain ⟨p, _, hp⟩ := h.top q _ k (List.getElem?_eq_getElem hq) hk ha
  exact List.mem_of_getElem? hp
theorem OrdI.snoc {n : Nat} {t : List (List Bool)} {out : List Nat} (h : OrdI n t out) {i : Nat} (hi : i < n) (hf : freeO n t out i = true) : OrdI n t (out ++ [i]) := by
  obtain ⟨h1, h2⟩ := freeO_iff.1 hf
  refine ⟨?_, fun j hj => ?_, fun q j k hq hk ha => ?_⟩
  · rw [List.nodup_append]
    exact ⟨h.nd, by simp, fun a ha b hb => by simp at hb; subst hb; rintro rfl; exact h1 ha⟩
  · rcases List.mem_append.1 hj with hj | hj
    · exact h.rng j hj
    · simp at hj; omega
  · by_cases hql : q < out.length
    · rw [List.getElem?_append_left hql] at hq
      obtain ⟨p, hp1, hp2⟩ := h.top q j k hq hk ha
      exact ⟨p, hp1, by rw [List.getElem?_append_left (by omega)]; exact hp2⟩
    · have hq2 := (List.getElem?_eq_some_iff.1 hq).1
      simp at hq2
      have : q = out.length := by omega
      subst this
      simp at hq; subst hq
      obtain ⟨p, hp, hpk⟩ := List.mem_iff_getElem.1 (h2 k hk ha)
      exact ⟨p, hp, by rw [List.getElem?_append_left hp, List.getElem?_eq_getElem hp, hpk]⟩
theorem nodup_nat : ∀ (n : Nat) (l : List Nat), l.Nodup → (∀ i ∈ l, i < n) → l.length ≤ n
  | 0, l, _, h => by
    cases l with
    | nil => simp
    | cons a l => have := h a (by simp); omega
  | n + 1, l, hn, h => by
    have ih := nodup_nat n (l.erase n) (hn.erase _) fun u hu => by
      have h1 := (List.Nodup.mem_erase_iff hn).1 hu
      have := h u h1.2
      have := h1.1
      omega
    have : l.length ≤ (l.erase n).length + 1 := by
      rw [List.length_erase]; split <;> omega
    omega
theorem sub_len : ∀ (n : Nat) (l : List Nat), (∀ i, i < n → i ∈ l) → n ≤ l.length
  | 0, _, _ => Nat.zero_le _
  | n + 1, l, h => by
    have hn := h n (by omega)
    have ih := sub_len n (l.erase n) fun i hi => (List.mem_erase_of_ne (by omega)).2 (h i (by omega))
    rw [List.length_erase_of_mem hn] at ih
    have := List.length_pos_of_mem hn
    omega
theorem missing {n : Nat} {l : List Nat} (hl : l.length < n) : ∃ i, i < n ∧ i ∉ l := by
  rcases Classical.em (∃ i, i < n ∧ i ∉ l) with h | h
  · exact h
  · exfalso
    have := sub_len n l fun i hi => by
      rcases Classical.em (i ∈ l) with h1 | h1
      · exact h1
      · exact absurd ⟨i, hi, h1⟩ h
    omega
theorem OrdI.next {n : Nat} {t : List (List Bool)} (hs : Sq n t) (ha : acyc n t = true) {out : List Nat} (hl : out.length < n) : ∃ i, nextO n t out = some i ∧ i < n ∧ freeO n t out i = true := by
  obtain ⟨i, hi, ho⟩ := missing hl
  obtain ⟨j, hj, hf⟩ := exists_free hs ha _ i hi ho (Nat.le_refl _)
  cases h : nextO n t out with
  | none => have := find_range_none.1 h j hj; rw [hf] at this; cases this
  | some i => obtain ⟨h1, h2, _⟩ := find_range_lt h; exact ⟨i, rfl, h1, h2⟩
theorem ordO_ok {n : Nat} {t : List (List Bool)} (hs : Sq n t) (ha : acyc n t = true) : ∀ (m : Nat) (out : List Nat), OrdI n t out → out.length + m = n → OrdI n t (ordO n t m out) ∧ (ordO n t m out).length = n
  | 0, out, h, hl => ⟨h, hl⟩
  | m + 1, out, h, hl => by
    obtain ⟨i, h1, h2, h3⟩ := OrdI.next hs ha (out := out) (by omega)
    unfold ordO; rw [h1]
    exact ordO_ok hs ha m _ (h.snoc h2 h3) (by simp; omega)
theorem OrdI.nil (n : Nat) (t : List (List Bool)) : OrdI n t [] := ⟨by simp, by simp, by simp⟩
/-- How many stand before a node. -/
def cntO (n : Nat) (t : List (List Bool)) (out : List Nat) (j : Nat) : Nat := ((List.range n).filter fun k => atT t k j && !out.contains k).length
def befO (n : Nat) (t : List (List Bool)) (out : List Nat) : List Int := (List.range n).map fun j => if out.contains j then -1 else (cntO n t out j : Int)
theorem befO_len (n : Nat) (t : List (List Bool)) (out : List Nat) : (befO n t out).length = n := by simp [befO]
theorem befO_get {n : Nat} {t : List (List Bool)} {out : List Nat} {j : Nat} (hj : j < n) : (befO n t out).getD j 0 = if out.contains j then -1 else (cntO n t out j : Int) := by
  simp [befO, List.getD_eq_getElem?_getD, hj]
theorem cntO_zero {n : Nat} {t : List (List Bool)} {out : List Nat} {j : Nat} : cntO n t out j = 0 ↔ ∀ k, k < n → atT t k j = true → k ∈ out := by
  unfold cntO
  rw [List.length_eq_zero_iff, List.filter_eq_nil_iff]
  constructor
  · intro h k hk ha
    have := h k (List.mem_range.2 hk)
    rw [ha] at this; simpa using this
  · intro h k hk
    have := h k (List.mem_range.1 hk)
    cases ha : atT t k j with
    | false => simp
    | true => simp [this ha]
theorem befO_free {n : Nat} {t : List (List Bool)} {out : List Nat} {j : Nat} (hj : j < n) : decide (0 = (befO n t out).getD j 0) = freeO n t out j := by
  refine bool_ext ?_
  rw [decide_eq_true_eq, freeO_iff, befO_get hj]
  by_cases h : j ∈ out
  · simp [h]
  · have hc : out.contains j = false := by simpa using h
    rw [hc]
    simp only [Bool.false_eq_true, if_false]
    constructor
    · intro h2; exact ⟨h, cntO_zero.1 (by omega)⟩
    · intro h2; rw [cntO_zero.2 h2.2]; rfl
theorem befO_ix {n : Nat} {t : List (List Bool)} {out : List Nat} {i : Nat} (h : nextO n t out = some i) : ixf (fun y => decide (0 = y)) (befO n t out) = i := by
  obtain ⟨h1, h2, h3⟩ := find_range_lt h
  have hg : ∀ j, j < n → (befO n t out)[j]? = some ((befO n t out).getD j 0) := fun j hj => by
    rw [List.getElem?_eq_getElem (by rw [befO_len]; exact hj)]; simp [List.getD_eq_getElem?_getD, befO_len, hj]
  refine ixf_at (hg i h1) (by rw [befO_free h1]; exact h2) ?_
  rw [List.any_eq_false]
  intro y hy
  rw [List.mem_take_iff_getElem] at hy
  obtain ⟨k, hk, rfl⟩ := hy
  have hkn : k < n := by omega
  have := h3 k (by omega)
  rw [← befO_free hkn] at this
  simp only [List.getD_eq_getElem?_getD, befO_len, hkn, List.getElem?_eq_getElem, Option.getD_some] at this
  simpa using this
def decJ (t : List (List Bool)) (i j : Nat) (B : List Int) : List Int := if atT t i j then B.set j (B.getD j 0 - 1) else B
theorem decJ_eq (t : List (List Bool)) (i j : Nat) (B : List Int) : decJ t i j B = if atT t i j then B.set j (B.getD j 0 - 1) else B := rfl
theorem decJ_len (t : List (List Bool)) (i : Nat) (B : List Int) : ∀ m, (iter (decJ t i) m B).length = B.length
  | 0 => rfl
  | m + 1 => by rw [iter_succ, decJ_eq]; split <;> simp [decJ_len t i B m]
theorem decJ_get (t : List (List Bool)) (i : Nat) (B : List Int) (j : Nat) : ∀ m, m ≤ B.length → (iter (decJ t i) m B).getD j 0 = if j < m ∧ atT t i j = true then B.getD j 0 - 1 else B.getD j 0
  | 0, _ => by rw [if_neg (by omega)]; rfl
  | m + 1, hm => by
    have ih := decJ_get t i B j m (by omega)
    have hl := decJ_len t i B m
    have ihm := decJ_get t i B m m (by omega)
    rw [if_neg (by omega)] at ihm
    rw [iter_succ, decJ_eq]
    by_cases h : atT t i m = true
    · rw [if_pos h]
      by_cases e : m = j
      · subst e; rw [Go.AM.getD_set_eq (by omega), ihm, if_pos ⟨by omega, h⟩]
      · rw [Go.AM.getD_set_ne e, ih]
        have : (j < m + 1 ∧ atT t i j = true) ↔ (j < m ∧ atT t i j = true) := ⟨fun x => ⟨by omega, x.2⟩, fun x => ⟨by omega, x.2⟩⟩
        simp only [this]
    · rw [if_neg h, ih]
      have : (j < m + 1 ∧ atT t i j = true) ↔ (j < m ∧ atT t i j = true) := ⟨fun x => ⟨by
        by_cases e : j = m
        · subst e; exact absurd x.2 h
        · omega, x.2⟩, fun x => ⟨by omega, x.2⟩⟩
      simp only [this]
theorem filter_one {p q : Nat → Bool} {a : Nat} : ∀ {l : List Nat}, l.Nodup → a ∈ l → p a = true → q a = false → (∀ x ∈ l, x ≠ a → q x = p x) → (l.filter q).length + 1 = (l.filter p).length
  | [], _, ha, _, _, _ => by cases ha
  | b :: l, hn, ha, hp, hq, h => by
    rw [List.nodup_cons] at hn
    by_cases e : b = a
    · subst e
      have : l.filter q = l.filter p := List.filter_congr fun x hx => h x (by simp [hx]) (fun e => hn.1 (e ▸ hx))
      simp [List.filter_cons, hp, hq, this]
    · have hal : a ∈ l := (List.mem_cons.1 ha).resolve_left fun x => e x.symm
      have ih := filter_one hn.2 hal hp hq fun x hx => h x (by simp [hx])
      have hb := h b (by simp) e
      simp only [List.filter_cons, hb]
      split <;> first | omega | (simp only [List.length_cons]; omega)
theorem befO_step {n : Nat} {t : List (List Bool)} (hs : Sq n t) (hac : acyc n t = true) {out : List Nat} (ho : OrdI n t out) {i : Nat} (hi : i < n) (hf : freeO n t out i = true) : iter (decJ t i) n ((befO n t out).set i (-1)) = befO n t (out ++ [i]) := by
  have hbl := befO_len n t out
  obtain ⟨h1, h2⟩ := freeO_iff.1 hf
  refine getD_ext (by rw [decJ_len]; simp [befO_len]) fun j hj => ?_
  rw [decJ_len, List.length_set, hbl] at hj
  rw [decJ_get t i _ j n (by simp [hbl]), befO_get hj]
  have hii : atT t i i = false := by
    cases h : atT t i i with
    | false => rfl
    | true => have := acyc_iff.1 hac i hi; rw [warsh_sub hs hi hi h] at this; cases this
  by_cases hji : j = i
  · subst hji
    rw [hii, if_neg (by simp), Go.AM.getD_set_eq (by omega)]
    simp
  · rw [Go.AM.getD_set_ne (Ne.symm hji), befO_get hj]
    have hc : (out ++ [i]).contains j = out.contains j := by simp [hji]
    rw [hc]
    by_cases hjo : j ∈ out
    · have hno : ¬ (j < n ∧ atT t i j = true) := fun h => h1 (ho.closed hjo hi h.2)
      have hcj : out.contains j = true := by simpa using hjo
      rw [if_neg hno, hcj]
      simp
    · have hcj : out.contains j = false := by simpa using hjo
      rw [hcj]
      simp only [Bool.false_eq_true, if_false]
      by_cases hat : atT t i j = true
      · rw [if_pos ⟨hj, hat⟩]
        have : cntO n t (out ++ [i]) j + 1 = cntO n t out j := by
          unfold cntO
          refine filter_one (a := i) List.nodup_range (List.mem_range.2 hi) ?_ ?_ fun x hx hxi => ?_
          · simp [hat, h1]
          · simp
          · simp [hxi]
        omega
      · rw [if_neg (by rintro ⟨_, x⟩; exact hat x)]
        have : cntO n t (out ++ [i]) j = cntO n t out j := by
          unfold cntO
          congr 1
          refine List.filter_congr fun x hx => ?_
          by_cases e : x = i
          · subst e; simp [hat]
          · simp [e]
        rw [this]
/-- The first counts. -/
def incP (B : List Int) (p : Int × Int) : List Int := B.set p.2.toNat (B.getD p.2.toNat 0 + 1)
def incPs (B : List Int) (L : List (Int × Int)) : List Int := L.foldl incP B
theorem incPs_len (L : List (Int × Int)) : ∀ B : List Int, (incPs B L).length = B.length := by
  induction L with
  | nil => intro B; rfl
  | cons p L ih => intro B; show (incPs (incP B p) L).length = _; rw [ih]; simp [incP]
theorem incPs_take {B : List Int} {L : List (Int × Int)} {j : Nat} {p : Int × Int} (h : L[j]? = some p) : incPs B (L.take (j + 1)) = incP (incPs B (L.take j)) p := by
  obtain ⟨hj, rfl⟩ := List.getElem?_eq_some_iff.1 h
  unfold incPs
  rw [List.take_succ_eq_append_getElem hj, List.foldl_append]; rfl
theorem incPs_get (L : List (Int × Int)) (j : Nat) : ∀ B : List Int, j < B.length → (incPs B L).getD j 0 = B.getD j 0 + ((L.filter fun p => p.2.toNat == j).length : Int) := by
  induction L with
  | nil => intro B _; simp [incPs]
  | cons p L ih =>
    intro B hj
    show (incPs (incP B p) L).getD j 0 = _
    rw [ih _ (by simp [incP]; exact hj)]
    unfold incP
    rw [List.filter_cons]
    by_cases e : p.2.toNat = j
    · rw [e, Go.AM.getD_set_eq hj]; simp; omega
    · rw [Go.AM.getD_set_ne e]; simp [e]
theorem incPs_bnd (L : List (Int × Int)) (j : Nat) (B : List Int) (h : ∀ i, B.getD i 0 = 0) : 0 ≤ (incPs B L).getD j 0 ∧ (incPs B L).getD j 0 ≤ L.length := by
  by_cases hj : j < B.length
  · rw [incPs_get L j B hj, h]
    have := List.length_filter_le (fun p : Int × Int => p.2.toNat == j) L
    omega
  · rw [Go.AM.getD_out (by rw [incPs_len]; omega)]; omega
theorem rowPairs_cnt (t : List (List Bool)) (i j : Nat) : ∀ m, ((rowPairs t i m).filter fun p => p.2.toNat == j).length = if j < m ∧ atT t i j = true then 1 else 0
  | 0 => by simp [rowPairs]
  | m + 1 => by
    have ih := rowPairs_cnt t i j m
    rw [rowPairs_succ]
    by_cases h : atT t i m = true
    · rw [if_pos h, List.filter_append, List.length_append, ih]
      by_cases e : m = j
      · subst e; simp [h]
      · have : (j < m + 1 ∧ atT t i j = true) ↔ (j < m ∧ atT t i j = true) := ⟨fun x => ⟨by omega, x.2⟩, fun x => ⟨by omega, x.2⟩⟩
        simp [e, this]
    · rw [if_neg h, ih]
      have : (j < m + 1 ∧ atT t i j = true) ↔ (j < m ∧ atT t i j = true) := ⟨fun x => ⟨by
        by_cases e : j = m
        · subst e; exact absurd x.2 h
        · omega, x.2⟩, fun x => ⟨by omega, x.2⟩⟩
      simp only [this]
theorem pairsAt_cnt {n : Nat} (t : List (List Bool)) {j : Nat} (hj : j < n) : ∀ i, ((pairsAt t n i).filter fun p => p.2.toNat == j).length = ((List.range i).filter fun k => atT t k j).length
  | 0 => by simp [pairsAt]
  | i + 1 => by
    rw [pairsAt_succ, List.filter_append, List.length_append, pairsAt_cnt t hj i, rowPairs_cnt, List.range_succ, List.filter_append, List.length_append]
    by_cases h : atT t i j = true
    · simp [h, hj]
    · simp [h]
theorem befO_nil (n : Nat) (t : List (List Bool)) : incPs (List.replicate n 0) (pairsT t n) = befO n t [] := by
  refine getD_ext (by rw [incPs_len, befO_len]; simp) fun j hj => ?_
  rw [incPs_len, List.length_replicate] at hj
  rw [incPs_get _ j _ (by simpa using hj), befO_get hj]
  have e0 : (List.replicate n (0 : Int)).getD j 0 = 0 := by rw [List.getD_eq_getElem?_getD, List.getElem?_replicate]; split <;> rfl
  have hc : cntO n t [] j = ((List.range n).filter fun k => atT t k j).length := by unfold cntO; congr 1; refine List.filter_congr fun x _ => by simp
  have := pairsAt_cnt t hj n
  rw [e0]; unfold pairsT; rw [this, ← hc]; simp
end Go.AM

namespace Go.Proofs.R
open Go.AM Go
set_option maxRecDepth 100000
set_option maxHeartbeats 2000000
theorem index_r (l : List Int) (x : Int) (hl : l.length ≤ 9223372036854775807) : Reads Try.prog 55 false [.rsl 1 (ints l), .int .i64 x] (.int .i64 (ixf (fun y => decide (x = y)) l)) := by
  refine Reads.body (rs := [.tmp 4]) Try.func55 rfl Try.ntmps55 rfl (by simp) ?_
  generalize hQr : retQ _ _ _ = Qr
  refine AW.seq fun K1 hK1 => ?_
  -- region 0
  refine AW.regionK 0 (fun _ => none) [0, 1] [] ?_
  simp only [go_sem, reduceIte, reduceCtorEq, Nat.reduceAdd, Nat.reduceMul, Nat.reduceEqDiff, Nat.reduceLT, Nat.reduceLeDiff, Nat.reduceSub, Nat.reducePow, Nat.reduceBEq, Int.reduceToNat, List.reduceReplicate]
  repeat with_reducible refine cj ?_ ?_
  all_goals try first | omega
  refine hK1 _ _ _ ?_; clear hK1
  refine AW.seq fun K2 hK2 => ?_
  refine AW.seq fun K3 hK3 => ?_
  -- region 1
  refine AW.regionK 0 (fun _ => none) [0, 1, 7, 8] [] ?_
  simp only [go_sem, reduceIte, reduceCtorEq, Nat.reduceAdd, Nat.reduceMul, Nat.reduceEqDiff, Nat.reduceLT, Nat.reduceLeDiff, Nat.reduceSub, Nat.reducePow, Nat.reduceBEq, Int.reduceToNat, List.reduceReplicate]
  repeat with_reducible refine cj ?_ ?_
  all_goals try first | omega
  refine hK3 _ _ _ ?_; clear hK3
  refine AW.block ?_
  -- loop 1
  refine AW.loopE (fun mm ee ss kk => ∃ (j : Nat), l.length - j = mm ∧ ee = [(0, .rsl 1 (ints l)), (1, .int .i64 x), (7, .int .i64 l.length), (8, .int .i64 (j : Nat))] ∧ ss = [] ∧ (j ≤ l.length ∧ (l.take j).any (fun y => decide (x = y)) = false)) ?_ ?_
  · refine ⟨_, 0, rfl, ?henv, ?hstore, ?hst⟩
    case henv =>
      repeat' (first | rfl | refine env_cons ?_ ?_ | refine st_cons ?_ ?_ ?_ ?_ | refine int_eq ?_ | refine bool_eq ?_ | refine rsl_eq ?_ | refine osl_eq ?_ | refine sl_eq ?_ ?_ ?_ | refine ptr_eq ?_ ?_ ?_ | refine agg_eq ?_ | refine es_cons ?_ ?_ | refine row_cons ?_ ?_)
      all_goals (first | (simp; done) | omega | (simp; omega))
    case hstore =>
      repeat' (first | rfl | refine env_cons ?_ ?_ | refine st_cons ?_ ?_ ?_ ?_ | refine int_eq ?_ | refine bool_eq ?_ | refine rsl_eq ?_ | refine osl_eq ?_ | refine sl_eq ?_ ?_ ?_ | refine ptr_eq ?_ ?_ ?_ | refine agg_eq ?_ | refine es_cons ?_ ?_ | refine row_cons ?_ ?_)
      all_goals (first | (simp; done) | omega | (simp; omega))
    case hst =>
      first | trivial | omega | (simp; done) | (simp; omega)
  rintro mm ee ss kk ⟨j, rfl, rfl, rfl, hI⟩
  generalize hQl1 : thenQ _ _ = Ql1
  obtain ⟨hj, hall⟩ := hI
  refine AW.seq fun K4 hK4 => ?_
  -- region 2
  refine AW.regionK 0 (fun _ => none) [0, 1, 7, 8, 9] [] ?_
  simp only [go_sem, reduceIte, reduceCtorEq, Nat.reduceAdd, Nat.reduceMul, Nat.reduceEqDiff, Nat.reduceLT, Nat.reduceLeDiff, Nat.reduceSub, Nat.reducePow, Nat.reduceBEq, Int.reduceToNat, List.reduceReplicate]
  repeat with_reducible refine cj ?_ ?_
  all_goals try first | omega
  refine hK4 _ _ _ ?_; clear hK4
  refine AW.seq fun K5 hK5 => ?_
  -- cond 1
  refine AW.cond rfl (by simp only [go_sem, reduceIte, reduceCtorEq, Nat.reduceAdd, Nat.reduceMul, Nat.reduceEqDiff, Nat.reduceLT, Nat.reduceLeDiff, Nat.reduceSub, Nat.reducePow, Nat.reduceBEq, Int.reduceToNat, List.reduceReplicate]) ?_ ?_
  · intro hb
    try simp only [hB, decide_eq_true_eq, decide_eq_false_iff_not] at hb
    obtain ⟨y, hy⟩ := getI (l := l) (j := j) (by omega)
    have hgy := ints_get hy
    have hats := any_take_succ (p := fun y => decide (x = y)) hy
    refine AW.skip ?_
    refine hK5 _ _ _ ?_; clear hK5
    refine AW.seq fun K6 hK6 => ?_
    refine AW.block ?_
    refine AW.seq fun K7 hK7 => ?_
    -- region 3
    refine AW.regionK 0 (fun _ => none) [0, 1, 5, 7, 8] [] ?_
    simp only [go_sem, reduceIte, reduceCtorEq, Nat.reduceAdd, Nat.reduceMul, Nat.reduceEqDiff, Nat.reduceLT, Nat.reduceLeDiff, Nat.reduceSub, Nat.reducePow, Nat.reduceBEq, Int.reduceToNat, List.reduceReplicate]
    repeat with_reducible refine cj ?_ ?_
    all_goals try first | omega
    refine hK7 _ _ _ ?_; clear hK7
    refine AW.seq fun K8 hK8 => ?_
    -- region 4
    refine AW.regionK 0 (fun _ => none) [0, 1, 5, 7, 8, 16] [] ?_
    simp only [go_sem, reduceIte, reduceCtorEq, Nat.reduceAdd, Nat.reduceMul, Nat.reduceEqDiff, Nat.reduceLT, Nat.reduceLeDiff, Nat.reduceSub, Nat.reducePow, Nat.reduceBEq, Int.reduceToNat, List.reduceReplicate, hgy]
    repeat with_reducible refine cj ?_ ?_
    all_goals try first | omega
    refine hK8 _ _ _ ?_; clear hK8
    -- cond 2
    refine AW.cond rfl (by simp only [go_sem, reduceIte, reduceCtorEq, Nat.reduceAdd, Nat.reduceMul, Nat.reduceEqDiff, Nat.reduceLT, Nat.reduceLeDiff, Nat.reduceSub, Nat.reducePow, Nat.reduceBEq, Int.reduceToNat, List.reduceReplicate]) ?_ ?_
    · intro hb
      try simp only [hB, decide_eq_true_eq, decide_eq_false_iff_not] at hb
      refine AW.seq fun K9 hK9 => ?_
      -- region 5
      refine AW.regionK 0 (fun _ => none) [4] [] ?_
      simp only [go_sem, reduceIte, reduceCtorEq, Nat.reduceAdd, Nat.reduceMul, Nat.reduceEqDiff, Nat.reduceLT, Nat.reduceLeDiff, Nat.reduceSub, Nat.reducePow, Nat.reduceBEq, Int.reduceToNat, List.reduceReplicate]
      repeat with_reducible refine cj ?_ ?_
      all_goals try first | omega
      refine hK9 _ _ _ ?_; clear hK9
      refine AW.ret ?_
      rw [← hQl1]
      rw [← hQr]
      simp only [go_sem, reduceIte, reduceCtorEq, Nat.reduceAdd, Nat.reduceMul, Nat.reduceEqDiff, Nat.reduceLT, Nat.reduceLeDiff, Nat.reduceSub, Nat.reducePow, Nat.reduceBEq, Int.reduceToNat, List.reduceReplicate]
      exact Wk.of_eq (by rw [ixf_at hy (decide_eq_true hb) hall])
    · intro hb
      try simp only [hB, decide_eq_true_eq, decide_eq_false_iff_not] at hb
      refine AW.skip ?_
      refine hK6 _ _ _ ?_; clear hK6
      -- region 6
      refine AW.regionK 0 (fun _ => none) [0, 1, 7, 8] [] ?_
      simp only [go_sem, reduceIte, reduceCtorEq, Nat.reduceAdd, Nat.reduceMul, Nat.reduceEqDiff, Nat.reduceLT, Nat.reduceLeDiff, Nat.reduceSub, Nat.reducePow, Nat.reduceBEq, Int.reduceToNat, List.reduceReplicate]
      repeat with_reducible refine cj ?_ ?_
      all_goals try first | omega
      rw [← hQl1]
      change Exists _
      refine ⟨_, ?hm, j + 1, rfl, ?henv, ?hstore, ?hst⟩
      case henv =>
        repeat' (first | rfl | refine env_cons ?_ ?_ | refine st_cons ?_ ?_ ?_ ?_ | refine int_eq ?_ | refine bool_eq ?_ | refine rsl_eq ?_ | refine osl_eq ?_ | refine sl_eq ?_ ?_ ?_ | refine ptr_eq ?_ ?_ ?_ | refine agg_eq ?_ | refine es_cons ?_ ?_ | refine row_cons ?_ ?_)
        all_goals (first | (simp; done) | omega | (simp; omega))
      case hstore =>
        repeat' (first | rfl | refine env_cons ?_ ?_ | refine st_cons ?_ ?_ ?_ ?_ | refine int_eq ?_ | refine bool_eq ?_ | refine rsl_eq ?_ | refine osl_eq ?_ | refine sl_eq ?_ ?_ ?_ | refine ptr_eq ?_ ?_ ?_ | refine agg_eq ?_ | refine es_cons ?_ ?_ | refine row_cons ?_ ?_)
        all_goals (first | (simp; done) | omega | (simp; omega))
      case hst =>
        exact ⟨by omega, by rw [hats, hall, decide_eq_false hb]; rfl⟩
      case hm => omega
  · intro hb
    try simp only [hB, decide_eq_true_eq, decide_eq_false_iff_not] at hb
    refine AW.keep [] [] ?_
    try simp only [go_sem, reduceIte, reduceCtorEq, Nat.reduceAdd, Nat.reduceMul, Nat.reduceEqDiff, Nat.reduceLT, Nat.reduceLeDiff, Nat.reduceSub, Nat.reducePow, Nat.reduceBEq, Int.reduceToNat, List.reduceReplicate]
    refine AW.exit ?_
    rw [← hQl1]
    refine hK2 _ _ _ ?_; clear hK2
    refine AW.seq fun K10 hK10 => ?_
    -- region 7
    refine AW.regionK 0 (fun _ => none) [4] [] ?_
    simp only [go_sem, reduceIte, reduceCtorEq, Nat.reduceAdd, Nat.reduceMul, Nat.reduceEqDiff, Nat.reduceLT, Nat.reduceLeDiff, Nat.reduceSub, Nat.reducePow, Nat.reduceBEq, Int.reduceToNat, List.reduceReplicate]
    repeat with_reducible refine cj ?_ ?_
    all_goals try first | omega
    refine hK10 _ _ _ ?_; clear hK10
    refine AW.ret ?_
    rw [← hQr]
    simp only [go_sem, reduceIte, reduceCtorEq, Nat.reduceAdd, Nat.reduceMul, Nat.reduceEqDiff, Nat.reduceLT, Nat.reduceLeDiff, Nat.reduceSub, Nat.reducePow, Nat.reduceBEq, Int.reduceToNat, List.reduceReplicate]
    exact Wk.of_eq (by rw [List.take_of_length_le (by omega)] at hall; rw [ixf_none hall])
def nats (l : List Nat) : List Int := l.map fun (i : Nat) => (i : Int)
theorem nats_app (l : List Nat) (i : Nat) : nats l ++ [(i : Int)] = nats (l ++ [i]) := by simp [nats]
theorem nats_len (l : List Nat) : (nats l).length = l.length := by simp [nats]
theorem order_e (rs : List USet) (hl : longR rs) (hv : validR rs = false) : Reads Try.prog 30 false [relV rs] (.tup [.rsl 1 [], .int .i64 1]) := by
  have h := rvalid_r rs hl.1 hl.2
  rw [hv] at h
  unfold relV at *
  refine Reads.body (rs := [.tmp 2, .tmp 3]) Try.func30 rfl Try.ntmps30 rfl (by simp) ?_
  generalize hQr : retQ _ _ _ = Qr
  refine AW.seq fun K1 hK1 => ?_
  -- region 0
  refine AW.regionK 0 (fun _ => none) [1] [1] ?_
  simp only [go_sem, reduceIte, reduceCtorEq, Nat.reduceAdd, Nat.reduceMul, Nat.reduceEqDiff, Nat.reduceLT, Nat.reduceLeDiff, Nat.reduceSub, Nat.reducePow, Nat.reduceBEq, Int.reduceToNat, List.reduceReplicate]
  repeat with_reducible refine cj ?_ ?_
  all_goals try first | omega
  refine hK1 _ _ _ ?_; clear hK1
  refine AW.seq fun K2 hK2 => ?_
  refine AW.block ?_
  refine AW.seq fun K3 hK3 => ?_
  -- region 1
  refine AW.regionK 0 (fun ii => if ii = 1 then some (.reads false (.bool false)) else none) [1, 10] [1] ?_
  simp only [go_sem, reduceIte, reduceCtorEq, Nat.reduceAdd, Nat.reduceMul, Nat.reduceEqDiff, Nat.reduceLT, Nat.reduceLeDiff, Nat.reduceSub, Nat.reducePow, Nat.reduceBEq, Int.reduceToNat, List.reduceReplicate]
  repeat with_reducible refine cj ?_ ?_
  all_goals try first | (exact h) | omega | exact ent (by kernel_rfl)
  refine hK3 _ _ _ ?_; clear hK3
  -- cond 1
  refine AW.cond rfl (by simp only [go_sem, reduceIte, reduceCtorEq, Nat.reduceAdd, Nat.reduceMul, Nat.reduceEqDiff, Nat.reduceLT, Nat.reduceLeDiff, Nat.reduceSub, Nat.reducePow, Nat.reduceBEq, Int.reduceToNat, List.reduceReplicate]) ?_ ?_
  · intro hb
    try simp only [hB, decide_eq_true_eq, decide_eq_false_iff_not] at hb
    refine AW.seq fun K4 hK4 => ?_
    -- region 2
    refine AW.regionK 0 (fun _ => none) [2, 3] [] ?_
    simp only [go_sem, reduceIte, reduceCtorEq, Nat.reduceAdd, Nat.reduceMul, Nat.reduceEqDiff, Nat.reduceLT, Nat.reduceLeDiff, Nat.reduceSub, Nat.reducePow, Nat.reduceBEq, Int.reduceToNat, List.reduceReplicate]
    repeat with_reducible refine cj ?_ ?_
    all_goals try first | omega
    refine hK4 _ _ _ ?_; clear hK4
    refine AW.ret ?_
    rw [← hQr]
    simp only [go_sem, reduceIte, reduceCtorEq, Nat.reduceAdd, Nat.reduceMul, Nat.reduceEqDiff, Nat.reduceLT, Nat.reduceLeDiff, Nat.reduceSub, Nat.reducePow, Nat.reduceBEq, Int.reduceToNat, List.reduceReplicate]
    exact Wk.tup2 (Wk.nil 1) (Wk.refl _)
  · intro hb
    try simp only [hB, decide_eq_true_eq, decide_eq_false_iff_not] at hb
    simp at hb
theorem order_c (n : Nat) (t : List (List Bool)) (hs : Sq n t) (hn : n ≤ 512) (hac : acyc n t = false) : Reads Try.prog 30 false [relB t] (.tup [.rsl 1 [], .int .i64 ((10 : Nat) : Int)]) := by
  have h := valid_g n t hs hn
  have h2 := acyclic_g n t hs hn
  rw [hac] at h2
  unfold relB at *
  refine Reads.body (rs := [.tmp 2, .tmp 3]) Try.func30 rfl Try.ntmps30 rfl (by simp) ?_
  generalize hQr : retQ _ _ _ = Qr
  refine AW.seq fun K1 hK1 => ?_
  -- region 0
  refine AW.regionK 0 (fun _ => none) [1] [1] ?_
  simp only [go_sem, reduceIte, reduceCtorEq, Nat.reduceAdd, Nat.reduceMul, Nat.reduceEqDiff, Nat.reduceLT, Nat.reduceLeDiff, Nat.reduceSub, Nat.reducePow, Nat.reduceBEq, Int.reduceToNat, List.reduceReplicate]
  repeat with_reducible refine cj ?_ ?_
  all_goals try first | omega
  refine hK1 _ _ _ ?_; clear hK1
  refine AW.seq fun K2 hK2 => ?_
  refine AW.block ?_
  refine AW.seq fun K3 hK3 => ?_
  -- region 1
  refine AW.regionK 0 (fun ii => if ii = 1 then some (.reads false (.bool true)) else none) [1, 10] [1] ?_
  simp only [go_sem, reduceIte, reduceCtorEq, Nat.reduceAdd, Nat.reduceMul, Nat.reduceEqDiff, Nat.reduceLT, Nat.reduceLeDiff, Nat.reduceSub, Nat.reducePow, Nat.reduceBEq, Int.reduceToNat, List.reduceReplicate]
  repeat with_reducible refine cj ?_ ?_
  all_goals try first | (exact h) | omega | exact ent (by kernel_rfl)
  refine hK3 _ _ _ ?_; clear hK3
  -- cond 1
  refine AW.cond rfl (by simp only [go_sem, reduceIte, reduceCtorEq, Nat.reduceAdd, Nat.reduceMul, Nat.reduceEqDiff, Nat.reduceLT, Nat.reduceLeDiff, Nat.reduceSub, Nat.reducePow, Nat.reduceBEq, Int.reduceToNat, List.reduceReplicate]) ?_ ?_
  · intro hb
    try simp only [hB, decide_eq_true_eq, decide_eq_false_iff_not] at hb
    simp at hb
  · intro hb
    try simp only [hB, decide_eq_true_eq, decide_eq_false_iff_not] at hb
    refine AW.seq fun K4 hK4 => ?_
    -- region 3
    refine AW.regionK 0 (fun ii => if ii = 1 then some (.reads false (.bool false)) else none) [1, 14] [1] ?_
    simp only [go_sem, reduceIte, reduceCtorEq, Nat.reduceAdd, Nat.reduceMul, Nat.reduceEqDiff, Nat.reduceLT, Nat.reduceLeDiff, Nat.reduceSub, Nat.reducePow, Nat.reduceBEq, Int.reduceToNat, List.reduceReplicate]
    repeat with_reducible refine cj ?_ ?_
    all_goals try first | (exact h2) | omega | exact ent (by kernel_rfl)
    refine hK4 _ _ _ ?_; clear hK4
    -- cond 2
    refine AW.cond rfl (by simp only [go_sem, reduceIte, reduceCtorEq, Nat.reduceAdd, Nat.reduceMul, Nat.reduceEqDiff, Nat.reduceLT, Nat.reduceLeDiff, Nat.reduceSub, Nat.reducePow, Nat.reduceBEq, Int.reduceToNat, List.reduceReplicate]) ?_ ?_
    · intro hb
      try simp only [hB, decide_eq_true_eq, decide_eq_false_iff_not] at hb
      refine AW.seq fun K5 hK5 => ?_
      -- region 4
      refine AW.regionK 0 (fun _ => none) [2, 3] [] ?_
      simp only [go_sem, reduceIte, reduceCtorEq, Nat.reduceAdd, Nat.reduceMul, Nat.reduceEqDiff, Nat.reduceLT, Nat.reduceLeDiff, Nat.reduceSub, Nat.reducePow, Nat.reduceBEq, Int.reduceToNat, List.reduceReplicate]
      repeat with_reducible refine cj ?_ ?_
      all_goals try first | omega
      refine hK5 _ _ _ ?_; clear hK5
      refine AW.ret ?_
      rw [← hQr]
      simp only [go_sem, reduceIte, reduceCtorEq, Nat.reduceAdd, Nat.reduceMul, Nat.reduceEqDiff, Nat.reduceLT, Nat.reduceLeDiff, Nat.reduceSub, Nat.reducePow, Nat.reduceBEq, Int.reduceToNat, List.reduceReplicate]
      exact Wk.tup2 (Wk.nil 1) (Wk.refl _)
    · intro hb
      try simp only [hB, decide_eq_true_eq, decide_eq_false_iff_not] at hb
      simp at hb
theorem order_g (n : Nat) (t : List (List Bool)) (hs : Sq n t) (hn : n ≤ 512) (hac : acyc n t = true) : Reads Try.prog 30 false [relB t] (.tup [.rsl 1 (ints (nats (ordO n t n []))), .int .i64 ((0 : Nat) : Int)]) := by
  have h := valid_g n t hs hn
  have h2 := acyclic_g n t hs hn
  rw [hac] at h2
  have ha := all_r n t hs hn
  have hlt : (tabR t).length = n := by rw [tabR_len, hs.len]
  have hpl : (pairsT t n).length ≤ 262144 := Nat.le_trans (pairsAt_le t n n) (Nat.le_trans (Nat.mul_le_mul hn hn) (by decide))
  have hin := pairsT_in (t := t) (n := n)
  have hz : ∀ i, (List.replicate n (0 : Int)).getD i 0 = 0 := fun i => by rw [List.getD_eq_getElem?_getD, List.getElem?_replicate]; split <;> rfl
  have hbf := befO_nil n t
  have hib := fun L j => incPs_bnd L j _ hz
  have hil := fun L => incPs_len L (List.replicate n (0 : Int))
  have hh2 := fun i j hi hj => rhas_r n t hs hn i j hi hj
  unfold relB at *
  generalize hP : pairsT t n = P at *
  refine Reads.body (rs := [.tmp 2, .tmp 3]) Try.func30 rfl Try.ntmps30 rfl (by simp) ?_
  generalize hQr : retQ _ _ _ = Qr
  refine AW.seq fun K1 hK1 => ?_
  -- region 0
  refine AW.regionK 0 (fun _ => none) [1] [1] ?_
  simp only [go_sem, reduceIte, reduceCtorEq, Nat.reduceAdd, Nat.reduceMul, Nat.reduceEqDiff, Nat.reduceLT, Nat.reduceLeDiff, Nat.reduceSub, Nat.reducePow, Nat.reduceBEq, Int.reduceToNat, List.reduceReplicate, hlt]
  repeat with_reducible refine cj ?_ ?_
  all_goals try first | omega
  refine hK1 _ _ _ ?_; clear hK1
  refine AW.seq fun K2 hK2 => ?_
  refine AW.block ?_
  refine AW.seq fun K3 hK3 => ?_
  -- region 1
  refine AW.regionK 0 (fun ii => if ii = 1 then some (.reads false (.bool true)) else none) [1, 10] [1] ?_
  simp only [go_sem, reduceIte, reduceCtorEq, Nat.reduceAdd, Nat.reduceMul, Nat.reduceEqDiff, Nat.reduceLT, Nat.reduceLeDiff, Nat.reduceSub, Nat.reducePow, Nat.reduceBEq, Int.reduceToNat, List.reduceReplicate, hlt]
  repeat with_reducible refine cj ?_ ?_
  all_goals try first | (exact h) | omega | exact ent (by kernel_rfl)
  refine hK3 _ _ _ ?_; clear hK3
  -- cond 1
  refine AW.cond rfl (by simp only [go_sem, reduceIte, reduceCtorEq, Nat.reduceAdd, Nat.reduceMul, Nat.reduceEqDiff, Nat.reduceLT, Nat.reduceLeDiff, Nat.reduceSub, Nat.reducePow, Nat.reduceBEq, Int.reduceToNat, List.reduceReplicate]) ?_ ?_
  · intro hb
    try simp only [hB, decide_eq_true_eq, decide_eq_false_iff_not] at hb
    simp at hb
  · intro hb
    try simp only [hB, decide_eq_true_eq, decide_eq_false_iff_not] at hb
    refine AW.seq fun K4 hK4 => ?_
    -- region 3
    refine AW.regionK 0 (fun ii => if ii = 1 then some (.reads false (.bool true)) else none) [1, 14] [1] ?_
    simp only [go_sem, reduceIte, reduceCtorEq, Nat.reduceAdd, Nat.reduceMul, Nat.reduceEqDiff, Nat.reduceLT, Nat.reduceLeDiff, Nat.reduceSub, Nat.reducePow, Nat.reduceBEq, Int.reduceToNat, List.reduceReplicate, hlt]
    repeat with_reducible refine cj ?_ ?_
    all_goals try first | (exact h2) | omega | exact ent (by kernel_rfl)
    refine hK4 _ _ _ ?_; clear hK4
    -- cond 2
    refine AW.cond rfl (by simp only [go_sem, reduceIte, reduceCtorEq, Nat.reduceAdd, Nat.reduceMul, Nat.reduceEqDiff, Nat.reduceLT, Nat.reduceLeDiff, Nat.reduceSub, Nat.reducePow, Nat.reduceBEq, Int.reduceToNat, List.reduceReplicate]) ?_ ?_
    · intro hb
      try simp only [hB, decide_eq_true_eq, decide_eq_false_iff_not] at hb
      simp at hb
    · intro hb
      try simp only [hB, decide_eq_true_eq, decide_eq_false_iff_not] at hb
      refine AW.skip ?_
      refine hK2 _ _ _ ?_; clear hK2
      refine AW.seq fun K5 hK5 => ?_
      -- region 5
      refine AW.regionK 0 (fun _ => none) [1, 4] [1, 21] ?_
      simp only [go_sem, reduceIte, reduceCtorEq, Nat.reduceAdd, Nat.reduceMul, Nat.reduceEqDiff, Nat.reduceLT, Nat.reduceLeDiff, Nat.reduceSub, Nat.reducePow, Nat.reduceBEq, Int.reduceToNat, List.reduceReplicate, hlt]
      repeat with_reducible refine cj ?_ ?_
      all_goals try first | omega
      refine hK5 _ _ _ ?_; clear hK5
      refine AW.seq fun K6 hK6 => ?_
      refine AW.seq fun K7 hK7 => ?_
      -- region 6
      refine AW.regionK 0 (fun ii => if ii = 1 then some (.reads true (.rsl 2 (P.map pairV))) else none) [1, 4, 23, 24, 25] [1, 21] ?_
      simp only [go_sem, reduceIte, reduceCtorEq, Nat.reduceAdd, Nat.reduceMul, Nat.reduceEqDiff, Nat.reduceLT, Nat.reduceLeDiff, Nat.reduceSub, Nat.reducePow, Nat.reduceBEq, Int.reduceToNat, List.reduceReplicate, hlt]
      repeat with_reducible refine cj ?_ ?_
      all_goals try first | (exact ha) | omega | exact ent (by kernel_rfl)
      refine hK7 _ _ _ ?_; clear hK7
      refine AW.block ?_
      -- loop 1
      refine AW.loopE (fun mm ee ss kk => ∃ (j g1 v1 g v : Nat), P.length - j = mm ∧ ee = [(1, .ptr ⟨1, g1, none⟩ 0 0), (4, .sl ⟨21, g, none⟩ 0 n none), (23, .rsl 2 (P.map pairV)), (24, .int .i64 P.length), (25, .int .i64 (j : Nat))] ∧ ss = [(1, some ⟨g1, v1, 1, [[.rsl 2 (tabR t)]]⟩), (21, some ⟨g, v, 1, ints (incPs (List.replicate n 0) (P.take j))⟩)] ∧ (j ≤ P.length)) ?_ ?_
      · refine ⟨_, 0, ?_, ?_, ?_, ?_, rfl, ?henv, ?hstore, ?hst⟩
        case henv =>
          repeat' (first | rfl | refine env_cons ?_ ?_ | refine st_cons ?_ ?_ ?_ ?_ | refine int_eq ?_ | refine bool_eq ?_ | refine rsl_eq ?_ | refine osl_eq ?_ | refine sl_eq ?_ ?_ ?_ | refine ptr_eq ?_ ?_ ?_ | refine agg_eq ?_ | refine es_cons ?_ ?_ | refine row_cons ?_ ?_)
          all_goals (first | (simp; done) | omega | (simp; omega))
        case hstore =>
          repeat' (first | rfl | refine env_cons ?_ ?_ | refine st_cons ?_ ?_ ?_ ?_ | refine int_eq ?_ | refine bool_eq ?_ | refine rsl_eq ?_ | refine osl_eq ?_ | refine sl_eq ?_ ?_ ?_ | refine ptr_eq ?_ ?_ ?_ | refine agg_eq ?_ | refine es_cons ?_ ?_ | refine row_cons ?_ ?_)
          all_goals (simp [ints, incPs])
        case hst =>
          first | trivial | omega | (simp; done) | (simp; omega)
      rintro mm ee ss kk ⟨j, g1, v1, g, v, rfl, rfl, rfl, hI⟩
      generalize hQl1 : thenQ _ _ = Ql1
      refine AW.seq fun K8 hK8 => ?_
      -- region 7
      refine AW.regionK 0 (fun _ => none) [1, 4, 23, 24, 25, 26] [1, 21] ?_
      simp only [go_sem, reduceIte, reduceCtorEq, Nat.reduceAdd, Nat.reduceMul, Nat.reduceEqDiff, Nat.reduceLT, Nat.reduceLeDiff, Nat.reduceSub, Nat.reducePow, Nat.reduceBEq, Int.reduceToNat, List.reduceReplicate, hlt]
      repeat with_reducible refine cj ?_ ?_
      all_goals try first | omega
      refine hK8 _ _ _ ?_; clear hK8
      refine AW.seq fun K9 hK9 => ?_
      -- cond 3
      refine AW.cond rfl (by simp only [go_sem, reduceIte, reduceCtorEq, Nat.reduceAdd, Nat.reduceMul, Nat.reduceEqDiff, Nat.reduceLT, Nat.reduceLeDiff, Nat.reduceSub, Nat.reducePow, Nat.reduceBEq, Int.reduceToNat, List.reduceReplicate]) ?_ ?_
      · intro hb
        try simp only [hB, decide_eq_true_eq, decide_eq_false_iff_not] at hb
        obtain ⟨p, hp⟩ := getI (l := P) (j := j) (by omega)
        have hgp := getV (f := pairV) hp
        have hip := hin p (List.mem_of_getElem? hp)
        have hpt := incPs_take (B := List.replicate n (0 : Int)) hp
        unfold inP at hip
        have hl2 := hil (P.take j)
        have hb2 := hib (P.take j) p.2.toNat
        rw [List.length_replicate] at hl2
        rw [List.length_take] at hb2
        generalize incPs (List.replicate n 0) (P.take j) = B at *
        have hgB := ints_getD (l := B) (i := p.2.toNat) (by omega)
        unfold incP at hpt
        refine AW.skip ?_
        refine hK9 _ _ _ ?_; clear hK9
        refine AW.seq fun K10 hK10 => ?_
        refine AW.block ?_
        refine AW.seq fun K11 hK11 => ?_
        -- region 8
        refine AW.regionK 0 (fun _ => none) [1, 4, 6, 23, 24, 25] [1, 6, 21] ?_
        simp only [go_sem, reduceIte, reduceCtorEq, Nat.reduceAdd, Nat.reduceMul, Nat.reduceEqDiff, Nat.reduceLT, Nat.reduceLeDiff, Nat.reduceSub, Nat.reducePow, Nat.reduceBEq, Int.reduceToNat, List.reduceReplicate, hlt, hgp, pairV]
        repeat with_reducible refine cj ?_ ?_
        all_goals try first | omega
        refine hK11 _ _ _ ?_; clear hK11
        -- region 9
        refine AW.regionK 0 (fun _ => none) [1, 4, 23, 24, 25] [1, 21] ?_
        simp only [go_sem, reduceIte, reduceCtorEq, Nat.reduceAdd, Nat.reduceMul, Nat.reduceEqDiff, Nat.reduceLT, Nat.reduceLeDiff, Nat.reduceSub, Nat.reducePow, Nat.reduceBEq, Int.reduceToNat, List.reduceReplicate, hlt, pairV, hgB, hl2]
        repeat with_reducible refine cj ?_ ?_
        all_goals try first | omega
        refine hK10 _ _ _ ?_; clear hK10
        -- region 10
        refine AW.regionK 0 (fun _ => none) [1, 4, 23, 24, 25] [1, 21] ?_
        simp only [go_sem, reduceIte, reduceCtorEq, Nat.reduceAdd, Nat.reduceMul, Nat.reduceEqDiff, Nat.reduceLT, Nat.reduceLeDiff, Nat.reduceSub, Nat.reducePow, Nat.reduceBEq, Int.reduceToNat, List.reduceReplicate, hlt]
        repeat with_reducible refine cj ?_ ?_
        all_goals try first | omega
        rw [← hQl1]
        change Exists _
        refine ⟨_, ?hm, j + 1, ?_, ?_, ?_, ?_, rfl, ?henv, ?hstore, ?hst⟩
        case henv =>
          repeat' (first | rfl | refine env_cons ?_ ?_ | refine st_cons ?_ ?_ ?_ ?_ | refine int_eq ?_ | refine bool_eq ?_ | refine rsl_eq ?_ | refine osl_eq ?_ | refine sl_eq ?_ ?_ ?_ | refine ptr_eq ?_ ?_ ?_ | refine agg_eq ?_ | refine es_cons ?_ ?_ | refine row_cons ?_ ?_)
          all_goals (first | (simp; done) | omega | (simp; omega))
        case hstore =>
          repeat' (first | rfl | refine env_cons ?_ ?_ | refine st_cons ?_ ?_ ?_ ?_ | refine int_eq ?_ | refine bool_eq ?_ | refine rsl_eq ?_ | refine osl_eq ?_ | refine sl_eq ?_ ?_ ?_ | refine ptr_eq ?_ ?_ ?_ | refine agg_eq ?_ | refine es_cons ?_ ?_ | refine row_cons ?_ ?_)
          all_goals (rw [hpt])
        case hst =>
          first | trivial | omega | (simp; done) | (simp; omega)
        case hm => omega
      · intro hb
        try simp only [hB, decide_eq_true_eq, decide_eq_false_iff_not] at hb
        have hj : j = P.length := by omega
        subst hj
        rw [List.take_of_length_le (Nat.le_refl _), hbf]
        refine AW.exit ?_
        rw [← hQl1]
        refine hK6 _ _ _ ?_; clear hK6
        refine AW.seq fun K12 hK12 => ?_
        -- region 11
        refine AW.regionK 0 (fun _ => none) [1, 4, 7] [1, 21] ?_
        simp only [go_sem, reduceIte, reduceCtorEq, Nat.reduceAdd, Nat.reduceMul, Nat.reduceEqDiff, Nat.reduceLT, Nat.reduceLeDiff, Nat.reduceSub, Nat.reducePow, Nat.reduceBEq, Int.reduceToNat, List.reduceReplicate, hlt]
        repeat with_reducible refine cj ?_ ?_
        all_goals try first | omega
        refine hK12 _ _ _ ?_; clear hK12
        refine AW.seq fun K13 hK13 => ?_
        refine AW.seq fun K14 hK14 => ?_
        -- region 12
        refine AW.regionK 0 (fun _ => none) [1, 4, 7, 39, 40] [1, 21] ?_
        simp only [go_sem, reduceIte, reduceCtorEq, Nat.reduceAdd, Nat.reduceMul, Nat.reduceEqDiff, Nat.reduceLT, Nat.reduceLeDiff, Nat.reduceSub, Nat.reducePow, Nat.reduceBEq, Int.reduceToNat, List.reduceReplicate, hlt]
        repeat with_reducible refine cj ?_ ?_
        all_goals try first | omega
        refine hK14 _ _ _ ?_; clear hK14
        refine AW.block ?_
        refine AW.nilOwn 7 200 1 (by simp only [go_sem, reduceIte, Nat.reduceEqDiff]) ?_
        refine AW.keep [1, 4, 7, 39, 40] [1, 21, 200] ?_
        simp only [go_sem, reduceIte, Nat.reduceEqDiff]
        -- loop 2
        refine AW.loopE (fun mm ee ss kk => ∃ (m g1 v1 g v g7 v7 : Nat) (out : List Nat), m + 1 = mm ∧ ee = [(1, .ptr ⟨1, g1, none⟩ 0 0), (4, .sl ⟨21, g, none⟩ 0 n none), (7, .sl ⟨200, g7, none⟩ 0 out.length none), (39, .int .i64 n), (40, .int .i64 out.length)] ∧ ss = [(1, some ⟨g1, v1, 1, [[.rsl 2 (tabR t)]]⟩), (21, some ⟨g, v, 1, ints (befO n t out)⟩), (200, some ⟨g7, v7, 1, ints (nats out)⟩)] ∧ (OrdI n t out ∧ out.length + m = n ∧ ordO n t m out = ordO n t n [])) ?_ ?_
        · refine ⟨_, n, ?_, ?_, ?_, ?_, ?_, ?_, [], rfl, ?henv, ?hstore, ?hst⟩
          case henv =>
            repeat' (first | rfl | refine env_cons ?_ ?_ | refine st_cons ?_ ?_ ?_ ?_ | refine int_eq ?_ | refine bool_eq ?_ | refine rsl_eq ?_ | refine osl_eq ?_ | refine sl_eq ?_ ?_ ?_ | refine ptr_eq ?_ ?_ ?_ | refine agg_eq ?_ | refine es_cons ?_ ?_ | refine row_cons ?_ ?_)
            all_goals (first | (simp; done) | omega | (simp; omega))
          case hstore =>
            repeat' (first | rfl | refine env_cons ?_ ?_ | refine st_cons ?_ ?_ ?_ ?_ | refine int_eq ?_ | refine bool_eq ?_ | refine rsl_eq ?_ | refine osl_eq ?_ | refine sl_eq ?_ ?_ ?_ | refine ptr_eq ?_ ?_ ?_ | refine agg_eq ?_ | refine es_cons ?_ ?_ | refine row_cons ?_ ?_)
            all_goals (first | (simp; done) | omega | (simp; omega))
          case hst =>
            exact ⟨OrdI.nil n t, by simp, rfl⟩
        rintro mm ee ss kk ⟨m, g1, v1, g, v, g7, v7, out, rfl, rfl, rfl, hI⟩
        generalize hQl2 : thenQ _ _ = Ql2
        obtain ⟨hoi, hom, hoo⟩ := hI
        refine AW.seq fun K15 hK15 => ?_
        -- region 13
        refine AW.regionK 0 (fun _ => none) [1, 4, 7, 39, 40, 41] [1, 21, 200] ?_
        simp only [go_sem, reduceIte, reduceCtorEq, Nat.reduceAdd, Nat.reduceMul, Nat.reduceEqDiff, Nat.reduceLT, Nat.reduceLeDiff, Nat.reduceSub, Nat.reducePow, Nat.reduceBEq, Int.reduceToNat, List.reduceReplicate, hlt]
        repeat with_reducible refine cj ?_ ?_
        all_goals try first | omega
        refine hK15 _ _ _ ?_; clear hK15
        refine AW.seq fun K16 hK16 => ?_
        -- cond 4
        refine AW.cond rfl (by simp only [go_sem, reduceIte, reduceCtorEq, Nat.reduceAdd, Nat.reduceMul, Nat.reduceEqDiff, Nat.reduceLT, Nat.reduceLeDiff, Nat.reduceSub, Nat.reducePow, Nat.reduceBEq, Int.reduceToNat, List.reduceReplicate]) ?_ ?_
        · intro hb
          try simp only [hB, decide_eq_true_eq, decide_eq_false_iff_not] at hb
          obtain ⟨m, rfl⟩ : ∃ m', m = m' + 1 := ⟨m - 1, by omega⟩
          obtain ⟨i, hi1, hi2, hi3⟩ := OrdI.next hs hac (out := out) (by omega)
          have hix := befO_ix hi1
          have hbl := befO_len n t out
          have hidx := index_r (befO n t out) 0 (by omega)
          rw [hix] at hidx
          have hst := befO_step hs hac hoi hi2 hi3
          have hsn := hoi.snoc hi2 hi3
          have hoo2 : ordO n t m (out ++ [i]) = ordO n t n [] := by rw [← hoo]; show _ = ordO n t (m + 1) out; unfold ordO; rw [hi1]; cases m <;> rfl
          have hbr : ∀ j, j < n → -1 ≤ (befO n t out).getD j 0 ∧ (befO n t out).getD j 0 ≤ n := fun j hj => by
            rw [befO_get hj]
            have : cntO n t out j ≤ n := by unfold cntO; have := List.length_filter_le (fun k => atT t k j && !out.contains k) (List.range n); simp at this ⊢; exact this
            split <;> omega
          generalize befO n t out = B at *
          have htb : (ints B).take n = ints B := List.take_of_length_le (by rw [ints_len]; omega)
          have hto : (ints (nats out)).take out.length = ints (nats out) := List.take_of_length_le (by rw [ints_len, nats_len]; exact Nat.le_refl _)
          have hbl2 : (B.set i (-1)).length = n := by simp [hbl]
          have hdl := decJ_len t i (B.set i (-1))
          have hdg := fun j => decJ_get t i (B.set i (-1)) j
          have hbr2 : ∀ j, j < n → -1 ≤ (B.set i (-1)).getD j 0 ∧ (B.set i (-1)).getD j 0 ≤ n := fun j hj => by
            by_cases e : i = j
            · subst e; rw [Go.AM.getD_set_eq (by omega)]; omega
            · rw [Go.AM.getD_set_ne e]; exact hbr j hj
          refine AW.skip ?_
          refine hK16 _ _ _ ?_; clear hK16
          refine AW.seq fun K17 hK17 => ?_
          refine AW.block ?_
          refine AW.seq fun K18 hK18 => ?_
          -- region 14
          refine AW.regionK 0 (fun ii => if ii = 1 then some (.reads true (.int .i64 (i : Nat))) else none) [1, 4, 7, 8, 39, 40] [1, 21, 200] ?_
          simp only [go_sem, reduceIte, reduceCtorEq, Nat.reduceAdd, Nat.reduceMul, Nat.reduceEqDiff, Nat.reduceLT, Nat.reduceLeDiff, Nat.reduceSub, Nat.reducePow, Nat.reduceBEq, Int.reduceToNat, List.reduceReplicate, hlt, htb]
          repeat with_reducible refine cj ?_ ?_
          all_goals try first | (exact Reads.flat hidx rfl) | omega | exact ent (by kernel_rfl)
          refine hK18 _ _ _ ?_; clear hK18
          refine AW.seq fun K19 hK19 => ?_
          -- region 15
          refine AW.regionK 0 (fun _ => none) [1, 4, 7, 8, 39, 40] [1, 21, 200] ?_
          simp only [go_sem, reduceIte, reduceCtorEq, Nat.reduceAdd, Nat.reduceMul, Nat.reduceEqDiff, Nat.reduceLT, Nat.reduceLeDiff, Nat.reduceSub, Nat.reducePow, Nat.reduceBEq, Int.reduceToNat, List.reduceReplicate, hlt, hto, ints_app, nats_app, nats_len]
          repeat with_reducible refine cj ?_ ?_
          all_goals try first | omega | (simp [scP, scalar]; done) | exact scP_words _ | exact scP_ints _ | exact scP_bools _
          refine hK19 _ _ _ ?_; clear hK19
          refine AW.seq fun K20 hK20 => ?_
          -- region 16
          refine AW.regionK 0 (fun _ => none) [1, 4, 7, 8, 39, 40] [1, 21, 200] ?_
          simp only [go_sem, reduceIte, reduceCtorEq, Nat.reduceAdd, Nat.reduceMul, Nat.reduceEqDiff, Nat.reduceLT, Nat.reduceLeDiff, Nat.reduceSub, Nat.reducePow, Nat.reduceBEq, Int.reduceToNat, List.reduceReplicate, hlt, hbl]
          repeat with_reducible refine cj ?_ ?_
          all_goals try first | omega
          refine hK20 _ _ _ ?_; clear hK20
          refine AW.seq fun K21 hK21 => ?_
          -- region 17
          refine AW.regionK 0 (fun _ => none) [1, 4, 7, 8, 39, 40, 53, 54] [1, 21, 200] ?_
          simp only [go_sem, reduceIte, reduceCtorEq, Nat.reduceAdd, Nat.reduceMul, Nat.reduceEqDiff, Nat.reduceLT, Nat.reduceLeDiff, Nat.reduceSub, Nat.reducePow, Nat.reduceBEq, Int.reduceToNat, List.reduceReplicate, hlt]
          repeat with_reducible refine cj ?_ ?_
          all_goals try first | omega
          refine hK21 _ _ _ ?_; clear hK21
          refine AW.block ?_
          -- loop 3
          refine AW.loopE (fun mm ee ss kk => ∃ (j g1 v1 g v g7 v7 : Nat), n - j = mm ∧ ee = [(1, .ptr ⟨1, g1, none⟩ 0 0), (4, .sl ⟨21, g, none⟩ 0 n none), (7, .sl ⟨200, g7, none⟩ 0 (out ++ [i]).length none), (8, .int .i64 (i : Nat)), (39, .int .i64 n), (40, .int .i64 out.length), (53, .int .i64 n), (54, .int .i64 (j : Nat))] ∧ ss = [(1, some ⟨g1, v1, 1, [[.rsl 2 (tabR t)]]⟩), (21, some ⟨g, v, 1, ints (iter (decJ t i) j (B.set i (-1)))⟩), (200, some ⟨g7, v7, 1, ints (nats (out ++ [i]))⟩)] ∧ (j ≤ n)) ?_ ?_
          · refine ⟨_, 0, ?_, ?_, ?_, ?_, ?_, ?_, rfl, ?henv, ?hstore, ?hst⟩
            case henv =>
              repeat' (first | rfl | refine env_cons ?_ ?_ | refine st_cons ?_ ?_ ?_ ?_ | refine int_eq ?_ | refine bool_eq ?_ | refine rsl_eq ?_ | refine osl_eq ?_ | refine sl_eq ?_ ?_ ?_ | refine ptr_eq ?_ ?_ ?_ | refine agg_eq ?_ | refine es_cons ?_ ?_ | refine row_cons ?_ ?_)
              all_goals (first | (simp; done) | omega | (simp; omega))
            case hstore =>
              repeat' (first | rfl | refine env_cons ?_ ?_ | refine st_cons ?_ ?_ ?_ ?_ | refine int_eq ?_ | refine bool_eq ?_ | refine rsl_eq ?_ | refine osl_eq ?_ | refine sl_eq ?_ ?_ ?_ | refine ptr_eq ?_ ?_ ?_ | refine agg_eq ?_ | refine es_cons ?_ ?_ | refine row_cons ?_ ?_)
              all_goals (first | (simp; done) | omega | (simp; omega))
            case hst =>
              first | trivial | omega | (simp; done) | (simp; omega)
          rintro mm ee ss kk ⟨j, g1, v1, g, v, g7, v7, rfl, rfl, rfl, hI⟩
          generalize hQl3 : thenQ _ _ = Ql3
          refine AW.seq fun K22 hK22 => ?_
          -- region 18
          refine AW.regionK 0 (fun _ => none) [1, 4, 7, 8, 39, 40, 53, 54, 55] [1, 21, 200] ?_
          simp only [go_sem, reduceIte, reduceCtorEq, Nat.reduceAdd, Nat.reduceMul, Nat.reduceEqDiff, Nat.reduceLT, Nat.reduceLeDiff, Nat.reduceSub, Nat.reducePow, Nat.reduceBEq, Int.reduceToNat, List.reduceReplicate, hlt]
          repeat with_reducible refine cj ?_ ?_
          all_goals try first | omega
          refine hK22 _ _ _ ?_; clear hK22
          refine AW.seq fun K23 hK23 => ?_
          -- cond 5
          refine AW.cond rfl (by simp only [go_sem, reduceIte, reduceCtorEq, Nat.reduceAdd, Nat.reduceMul, Nat.reduceEqDiff, Nat.reduceLT, Nat.reduceLeDiff, Nat.reduceSub, Nat.reducePow, Nat.reduceBEq, Int.reduceToNat, List.reduceReplicate]) ?_ ?_
          · intro hb
            try simp only [hB, decide_eq_true_eq, decide_eq_false_iff_not] at hb
            have hhr := hh2 i j (by omega) (by omega)
            have hus : iter (decJ t i) (j + 1) (B.set i (-1)) = decJ t i j (iter (decJ t i) j (B.set i (-1))) := rfl
            rw [decJ_eq] at hus
            have hl2 := hdl j
            have hg2 := hdg j j (by omega)
            rw [if_neg (by omega)] at hg2
            have hb2 := hbr2 j (by omega)
            generalize iter (decJ t i) j (B.set i (-1)) = U at *
            have hgU := ints_getD (l := U) (i := j) (by omega)
            refine AW.skip ?_
            refine hK23 _ _ _ ?_; clear hK23
            refine AW.seq fun K24 hK24 => ?_
            refine AW.block ?_
            refine AW.seq fun K25 hK25 => ?_
            -- region 19
            refine AW.regionK 0 (fun _ => none) [1, 4, 7, 8, 9, 39, 40, 53, 54] [1, 21, 200] ?_
            simp only [go_sem, reduceIte, reduceCtorEq, Nat.reduceAdd, Nat.reduceMul, Nat.reduceEqDiff, Nat.reduceLT, Nat.reduceLeDiff, Nat.reduceSub, Nat.reducePow, Nat.reduceBEq, Int.reduceToNat, List.reduceReplicate, hlt]
            repeat with_reducible refine cj ?_ ?_
            all_goals try first | omega
            refine hK25 _ _ _ ?_; clear hK25
            refine AW.seq fun K26 hK26 => ?_
            -- region 20
            refine AW.regionK 0 (fun ii => if ii = 3 then some (.reads false (.bool (atT t i j))) else none) [1, 4, 7, 8, 9, 39, 40, 53, 54, 60] [1, 21, 200] ?_
            simp only [go_sem, reduceIte, reduceCtorEq, Nat.reduceAdd, Nat.reduceMul, Nat.reduceEqDiff, Nat.reduceLT, Nat.reduceLeDiff, Nat.reduceSub, Nat.reducePow, Nat.reduceBEq, Int.reduceToNat, List.reduceReplicate, hlt]
            repeat with_reducible refine cj ?_ ?_
            all_goals try first | (exact hhr) | omega | exact ent (by kernel_rfl)
            refine hK26 _ _ _ ?_; clear hK26
            -- cond 6
            refine AW.cond rfl (by simp only [go_sem, reduceIte, reduceCtorEq, Nat.reduceAdd, Nat.reduceMul, Nat.reduceEqDiff, Nat.reduceLT, Nat.reduceLeDiff, Nat.reduceSub, Nat.reducePow, Nat.reduceBEq, Int.reduceToNat, List.reduceReplicate]) ?_ ?_
            · intro hb
              try simp only [hB, decide_eq_true_eq, decide_eq_false_iff_not] at hb
              rw [if_pos hb] at hus
              -- region 21
              refine AW.regionK 0 (fun _ => none) [1, 4, 7, 8, 39, 40, 53, 54] [1, 21, 200] ?_
              simp only [go_sem, reduceIte, reduceCtorEq, Nat.reduceAdd, Nat.reduceMul, Nat.reduceEqDiff, Nat.reduceLT, Nat.reduceLeDiff, Nat.reduceSub, Nat.reducePow, Nat.reduceBEq, Int.reduceToNat, List.reduceReplicate, hlt, hgU]
              repeat with_reducible refine cj ?_ ?_
              all_goals try first | omega
              refine hK24 _ _ _ ?_; clear hK24
              -- region 22
              refine AW.regionK 0 (fun _ => none) [1, 4, 7, 8, 39, 40, 53, 54] [1, 21, 200] ?_
              simp only [go_sem, reduceIte, reduceCtorEq, Nat.reduceAdd, Nat.reduceMul, Nat.reduceEqDiff, Nat.reduceLT, Nat.reduceLeDiff, Nat.reduceSub, Nat.reducePow, Nat.reduceBEq, Int.reduceToNat, List.reduceReplicate, hlt]
              repeat with_reducible refine cj ?_ ?_
              all_goals try first | omega
              rw [← hQl3]
              change Exists _
              refine ⟨_, ?hm, j + 1, ?_, ?_, ?_, ?_, ?_, ?_, rfl, ?henv, ?hstore, ?hst⟩
              case henv =>
                repeat' (first | rfl | refine env_cons ?_ ?_ | refine st_cons ?_ ?_ ?_ ?_ | refine int_eq ?_ | refine bool_eq ?_ | refine rsl_eq ?_ | refine osl_eq ?_ | refine sl_eq ?_ ?_ ?_ | refine ptr_eq ?_ ?_ ?_ | refine agg_eq ?_ | refine es_cons ?_ ?_ | refine row_cons ?_ ?_)
                all_goals (first | (simp; done) | omega | (simp; omega))
              case hstore =>
                repeat' (first | rfl | refine env_cons ?_ ?_ | refine st_cons ?_ ?_ ?_ ?_ | refine int_eq ?_ | refine bool_eq ?_ | refine rsl_eq ?_ | refine osl_eq ?_ | refine sl_eq ?_ ?_ ?_ | refine ptr_eq ?_ ?_ ?_ | refine agg_eq ?_ | refine es_cons ?_ ?_ | refine row_cons ?_ ?_)
                all_goals (rw [hus])
              case hst =>
                first | trivial | omega | (simp; done) | (simp; omega)
              case hm => omega
            · intro hb
              try simp only [hB, decide_eq_true_eq, decide_eq_false_iff_not] at hb
              rw [if_neg (by rw [hb]; simp)] at hus
              refine AW.skip ?_
              refine hK24 _ _ _ ?_; clear hK24
              -- region 22
              refine AW.regionK 0 (fun _ => none) [1, 4, 7, 8, 39, 40, 53, 54] [1, 21, 200] ?_
              simp only [go_sem, reduceIte, reduceCtorEq, Nat.reduceAdd, Nat.reduceMul, Nat.reduceEqDiff, Nat.reduceLT, Nat.reduceLeDiff, Nat.reduceSub, Nat.reducePow, Nat.reduceBEq, Int.reduceToNat, List.reduceReplicate, hlt]
              repeat with_reducible refine cj ?_ ?_
              all_goals try first | omega
              rw [← hQl3]
              change Exists _
              refine ⟨_, ?hm, j + 1, ?_, ?_, ?_, ?_, ?_, ?_, rfl, ?henv, ?hstore, ?hst⟩
              case henv =>
                repeat' (first | rfl | refine env_cons ?_ ?_ | refine st_cons ?_ ?_ ?_ ?_ | refine int_eq ?_ | refine bool_eq ?_ | refine rsl_eq ?_ | refine osl_eq ?_ | refine sl_eq ?_ ?_ ?_ | refine ptr_eq ?_ ?_ ?_ | refine agg_eq ?_ | refine es_cons ?_ ?_ | refine row_cons ?_ ?_)
                all_goals (first | (simp; done) | omega | (simp; omega))
              case hstore =>
                repeat' (first | rfl | refine env_cons ?_ ?_ | refine st_cons ?_ ?_ ?_ ?_ | refine int_eq ?_ | refine bool_eq ?_ | refine rsl_eq ?_ | refine osl_eq ?_ | refine sl_eq ?_ ?_ ?_ | refine ptr_eq ?_ ?_ ?_ | refine agg_eq ?_ | refine es_cons ?_ ?_ | refine row_cons ?_ ?_)
                all_goals (rw [hus])
              case hst =>
                first | trivial | omega | (simp; done) | (simp; omega)
              case hm => omega
          · intro hb
            try simp only [hB, decide_eq_true_eq, decide_eq_false_iff_not] at hb
            have hj : j = n := by omega
            subst hj
            rw [hst]
            refine AW.exit ?_
            rw [← hQl3]
            refine hK17 _ _ _ ?_; clear hK17
            -- region 23
            refine AW.regionK 0 (fun _ => none) [1, 4, 7, 39, 40] [1, 21, 200] ?_
            simp only [go_sem, reduceIte, reduceCtorEq, Nat.reduceAdd, Nat.reduceMul, Nat.reduceEqDiff, Nat.reduceLT, Nat.reduceLeDiff, Nat.reduceSub, Nat.reducePow, Nat.reduceBEq, Int.reduceToNat, List.reduceReplicate, hlt]
            repeat with_reducible refine cj ?_ ?_
            all_goals try first | omega
            rw [← hQl2]
            change Exists _
            refine ⟨_, ?hm, m, ?_, ?_, ?_, ?_, ?_, ?_, out ++ [i], rfl, ?henv, ?hstore, ?hst⟩
            case henv =>
              repeat' (first | rfl | refine env_cons ?_ ?_ | refine st_cons ?_ ?_ ?_ ?_ | refine int_eq ?_ | refine bool_eq ?_ | refine rsl_eq ?_ | refine osl_eq ?_ | refine sl_eq ?_ ?_ ?_ | refine ptr_eq ?_ ?_ ?_ | refine agg_eq ?_ | refine es_cons ?_ ?_ | refine row_cons ?_ ?_)
              all_goals (first | (simp; done) | omega | (simp; omega))
            case hstore =>
              repeat' (first | rfl | refine env_cons ?_ ?_ | refine st_cons ?_ ?_ ?_ ?_ | refine int_eq ?_ | refine bool_eq ?_ | refine rsl_eq ?_ | refine osl_eq ?_ | refine sl_eq ?_ ?_ ?_ | refine ptr_eq ?_ ?_ ?_ | refine agg_eq ?_ | refine es_cons ?_ ?_ | refine row_cons ?_ ?_)
              all_goals (first | (simp; done) | omega | (simp; omega))
            case hst =>
              exact ⟨hsn, by simp; omega, hoo2⟩
            case hm => omega
        · intro hb
          try simp only [hB, decide_eq_true_eq, decide_eq_false_iff_not] at hb
          refine AW.exit ?_
          rw [← hQl2]
          refine hK13 _ _ _ ?_; clear hK13
          refine AW.seq fun K27 hK27 => ?_
          -- region 24
          refine AW.regionK 0 (fun _ => none) [2, 3] [200] ?_
          simp only [go_sem, reduceIte, reduceCtorEq, Nat.reduceAdd, Nat.reduceMul, Nat.reduceEqDiff, Nat.reduceLT, Nat.reduceLeDiff, Nat.reduceSub, Nat.reducePow, Nat.reduceBEq, Int.reduceToNat, List.reduceReplicate, hlt]
          repeat with_reducible refine cj ?_ ?_
          all_goals try first | omega
          refine hK27 _ _ _ ?_; clear hK27
          refine AW.ret ?_
          rw [← hQr]
          simp only [go_sem, reduceIte, reduceCtorEq, Nat.reduceAdd, Nat.reduceMul, Nat.reduceEqDiff, Nat.reduceLT, Nat.reduceLeDiff, Nat.reduceSub, Nat.reducePow, Nat.reduceBEq, Int.reduceToNat, List.reduceReplicate, hlt]
          have hm0 : m = 0 := by omega
          subst hm0
          have hor : out = ordO n t n [] := hoo
          rw [← hor, List.take_of_length_le (by rw [nats_len]; exact Nat.le_refl _)]
          exact Wk.refl _
end Go.Proofs.R

