/- Lemmas and contracts, part 3: an abstract machine over the model, and the functions that the statement reaches. -/
import Derived.Test.YtjccpgehkjmacaaFlowPathsP2
set_option linter.unusedVariables false
set_option linter.unusedSimpArgs false
namespace Go.Proofs.F
open Go.AM Go
set_option maxRecDepth 100000
set_option maxHeartbeats 1000000
theorem mixed : Try.prog.follows .mixedOrders = true := by kernel_rfl
theorem few_r (n : Net) : Reads Try.prog 11 false [netV n] (.bool (fewB n)) := by
  unfold netV
  refine Reads.body (rs := [.tmp 2]) Try.func11 rfl Try.ntmps11 rfl (by simp) ?_
  generalize hQr : retQ _ _ _ = Qr
  refine AW.seq fun K1 hK1 => ?_
  -- region 0
  refine AW.regionK 0 (fun _ => none) [1] [1] ?_
  simp only [go_sem, reduceIte, reduceCtorEq, Nat.reduceAdd, Nat.reduceMul, Nat.reduceEqDiff, Nat.reduceLT, Nat.reduceLeDiff, Nat.reduceSub, Nat.reducePow, Nat.reduceBEq, Int.reduceToNat, List.reduceReplicate]
  repeat with_reducible refine cj ?_ ?_
  all_goals try first | omega
  refine hK1 _ _ _ ?_; clear hK1
  refine AW.seq fun K2 hK2 => ?_
  -- region 1
  refine AW.regionK 0 (fun _ => none) [2] [] ?_
  simp only [go_sem, reduceIte, reduceCtorEq, Nat.reduceAdd, Nat.reduceMul, Nat.reduceEqDiff, Nat.reduceLT, Nat.reduceLeDiff, Nat.reduceSub, Nat.reducePow, Nat.reduceBEq, Int.reduceToNat, List.reduceReplicate]
  repeat with_reducible refine cj ?_ ?_
  all_goals try first | omega | (simp only [go_sem, reduceIte, reduceCtorEq, Nat.reduceAdd, Nat.reduceMul, Nat.reduceEqDiff, Nat.reduceLT, Nat.reduceLeDiff, Nat.reduceSub, Nat.reducePow, Nat.reduceBEq, Int.reduceToNat, List.reduceReplicate]; done) | (simp_all [go_sem]; done)
  refine hK2 _ _ _ ?_; clear hK2
  refine AW.ret ?_
  rw [← hQr]
  simp only [go_sem, reduceIte, reduceCtorEq, Nat.reduceAdd, Nat.reduceMul, Nat.reduceEqDiff, Nat.reduceLT, Nat.reduceLeDiff, Nat.reduceSub, Nat.reducePow, Nat.reduceBEq, Int.reduceToNat, List.reduceReplicate]
  exact Wk.of_eq (by simp [fewB]; norm_cast)
theorem ends_r (n : Net) (s t : Int) : Reads Try.prog 55 false [netV n, .int .i64 s, .int .i64 t] (.bool (endsB n s t)) := by
  unfold netV
  refine Reads.body (rs := [.tmp 6]) Try.func55 rfl Try.ntmps55 rfl (by simp) ?_
  generalize hQr : retQ _ _ _ = Qr
  refine AW.seq fun K1 hK1 => ?_
  -- region 0
  refine AW.regionK 0 (fun _ => none) [1, 2, 3] [3] ?_
  simp only [go_sem, reduceIte, reduceCtorEq, Nat.reduceAdd, Nat.reduceMul, Nat.reduceEqDiff, Nat.reduceLT, Nat.reduceLeDiff, Nat.reduceSub, Nat.reducePow, Nat.reduceBEq, Int.reduceToNat, List.reduceReplicate]
  repeat with_reducible refine cj ?_ ?_
  all_goals try first | omega
  refine hK1 _ _ _ ?_; clear hK1
  refine AW.seq fun K2 hK2 => ?_
  -- region 1
  refine AW.regionK 0 (fun _ => none) [6] [] ?_
  simp only [go_sem, reduceIte, reduceCtorEq, Nat.reduceAdd, Nat.reduceMul, Nat.reduceEqDiff, Nat.reduceLT, Nat.reduceLeDiff, Nat.reduceSub, Nat.reducePow, Nat.reduceBEq, Int.reduceToNat, List.reduceReplicate]
  repeat with_reducible refine cj ?_ ?_
  all_goals try first | omega | (simp only [go_sem, reduceIte, reduceCtorEq, Nat.reduceAdd, Nat.reduceMul, Nat.reduceEqDiff, Nat.reduceLT, Nat.reduceLeDiff, Nat.reduceSub, Nat.reducePow, Nat.reduceBEq, Int.reduceToNat, List.reduceReplicate]; done) | (simp_all [go_sem]; done)
  refine hK2 _ _ _ ?_; clear hK2
  refine AW.ret ?_
  rw [← hQr]
  simp only [go_sem, reduceIte, reduceCtorEq, Nat.reduceAdd, Nat.reduceMul, Nat.reduceEqDiff, Nat.reduceLT, Nat.reduceLeDiff, Nat.reduceSub, Nat.reducePow, Nat.reduceBEq, Int.reduceToNat, List.reduceReplicate]
  exact Wk.of_eq (by simp [endsB])
theorem rends_r (n : Net) (s t : Int) : Reads Try.prog 14 false [netV n, .int .i64 s, .int .i64 t] (.bool (endsB n s t)) := by
  unfold netV
  refine Reads.body (rs := [.tmp 6]) Try.func14 rfl Try.ntmps14 rfl (by simp) ?_
  generalize hQr : retQ _ _ _ = Qr
  refine AW.seq fun K1 hK1 => ?_
  -- region 0
  refine AW.regionK 0 (fun _ => none) [1, 2, 3] [3] ?_
  simp only [go_sem, reduceIte, reduceCtorEq, Nat.reduceAdd, Nat.reduceMul, Nat.reduceEqDiff, Nat.reduceLT, Nat.reduceLeDiff, Nat.reduceSub, Nat.reducePow, Nat.reduceBEq, Int.reduceToNat, List.reduceReplicate]
  repeat with_reducible refine cj ?_ ?_
  all_goals try first | omega
  refine hK1 _ _ _ ?_; clear hK1
  refine AW.seq fun K2 hK2 => ?_
  -- region 1
  refine AW.regionK 0 (fun _ => none) [6] [] ?_
  simp only [go_sem, reduceIte, reduceCtorEq, Nat.reduceAdd, Nat.reduceMul, Nat.reduceEqDiff, Nat.reduceLT, Nat.reduceLeDiff, Nat.reduceSub, Nat.reducePow, Nat.reduceBEq, Int.reduceToNat, List.reduceReplicate]
  repeat with_reducible refine cj ?_ ?_
  all_goals try first | omega | (simp only [go_sem, reduceIte, reduceCtorEq, Nat.reduceAdd, Nat.reduceMul, Nat.reduceEqDiff, Nat.reduceLT, Nat.reduceLeDiff, Nat.reduceSub, Nat.reducePow, Nat.reduceBEq, Int.reduceToNat, List.reduceReplicate]; done) | (simp_all [go_sem]; done)
  refine hK2 _ _ _ ?_; clear hK2
  refine AW.ret ?_
  rw [← hQr]
  simp only [go_sem, reduceIte, reduceCtorEq, Nat.reduceAdd, Nat.reduceMul, Nat.reduceEqDiff, Nat.reduceLT, Nat.reduceLeDiff, Nat.reduceSub, Nat.reducePow, Nat.reduceBEq, Int.reduceToNat, List.reduceReplicate]
  exact Wk.of_eq (by simp [endsB])
theorem valid_r (n : Net) (hlen : n.E.length ≤ 9223372036854775807) : Reads Try.prog 30 false [netV n] (.bool (validB n)) := by
  unfold netV
  refine Reads.body (rs := [.tmp 2]) Try.func30 rfl Try.ntmps30 rfl (by simp) ?_
  generalize hQr : retQ _ _ _ = Qr
  refine AW.seq fun K1 hK1 => ?_
  -- region 0
  refine AW.regionK 0 (fun _ => none) [1] [1] ?_
  simp only [go_sem, reduceIte, reduceCtorEq, Nat.reduceAdd, Nat.reduceMul, Nat.reduceEqDiff, Nat.reduceLT, Nat.reduceLeDiff, Nat.reduceSub, Nat.reducePow, Nat.reduceBEq, Int.reduceToNat, List.reduceReplicate]
  repeat with_reducible refine cj ?_ ?_
  all_goals try first | omega
  refine hK1 _ _ _ ?_; clear hK1
  refine AW.seq fun K2 hK2 => ?_
  refine AW.seq fun K3 hK3 => ?_
  -- region 1
  refine AW.regionK 0 (fun _ => none) [1, 18] [1] ?_
  simp only [go_sem, reduceIte, reduceCtorEq, Nat.reduceAdd, Nat.reduceMul, Nat.reduceEqDiff, Nat.reduceLT, Nat.reduceLeDiff, Nat.reduceSub, Nat.reducePow, Nat.reduceBEq, Int.reduceToNat, List.reduceReplicate]
  repeat with_reducible refine cj ?_ ?_
  all_goals try first | omega | (simp only [go_sem, reduceIte, reduceCtorEq, Nat.reduceAdd, Nat.reduceMul, Nat.reduceEqDiff, Nat.reduceLT, Nat.reduceLeDiff, Nat.reduceSub, Nat.reducePow, Nat.reduceBEq, Int.reduceToNat, List.reduceReplicate]; done) | (simp_all [go_sem]; done)
  refine hK3 _ _ _ ?_; clear hK3
  -- cond 1
  refine AW.cond rfl (by simp only [go_sem, reduceIte, reduceCtorEq, Nat.reduceAdd, Nat.reduceMul, Nat.reduceEqDiff, Nat.reduceLT, Nat.reduceLeDiff, Nat.reduceSub, Nat.reducePow, Nat.reduceBEq, Int.reduceToNat, List.reduceReplicate]) ?_ ?_
  · intro hb
    try simp only [hB, decide_eq_true_eq, decide_eq_false_iff_not] at hb
    refine AW.seq fun K4 hK4 => ?_
    -- region 2
    refine AW.regionK 0 (fun _ => none) [2] [] ?_
    simp only [go_sem, reduceIte, reduceCtorEq, Nat.reduceAdd, Nat.reduceMul, Nat.reduceEqDiff, Nat.reduceLT, Nat.reduceLeDiff, Nat.reduceSub, Nat.reducePow, Nat.reduceBEq, Int.reduceToNat, List.reduceReplicate]
    repeat with_reducible refine cj ?_ ?_
    all_goals try first | omega
    refine hK4 _ _ _ ?_; clear hK4
    refine AW.ret ?_
    rw [← hQr]
    simp only [go_sem, reduceIte, reduceCtorEq, Nat.reduceAdd, Nat.reduceMul, Nat.reduceEqDiff, Nat.reduceLT, Nat.reduceLeDiff, Nat.reduceSub, Nat.reducePow, Nat.reduceBEq, Int.reduceToNat, List.reduceReplicate]
    exact Wk.of_eq (by congr 1; symm; simp [validB]; omega)
  · intro hb
    try simp only [hB, decide_eq_true_eq, decide_eq_false_iff_not] at hb
    refine AW.skip ?_
    refine hK2 _ _ _ ?_; clear hK2
    refine AW.seq fun K5 hK5 => ?_
    refine AW.seq fun K6 hK6 => ?_
    -- region 3
    refine AW.regionK 0 (fun _ => none) [1, 20, 21, 22] [1] ?_
    simp only [go_sem, reduceIte, reduceCtorEq, Nat.reduceAdd, Nat.reduceMul, Nat.reduceEqDiff, Nat.reduceLT, Nat.reduceLeDiff, Nat.reduceSub, Nat.reducePow, Nat.reduceBEq, Int.reduceToNat, List.reduceReplicate]
    repeat with_reducible refine cj ?_ ?_
    all_goals try first | omega
    refine hK6 _ _ _ ?_; clear hK6
    refine AW.block ?_
    -- loop 1
    refine AW.loopE (fun mm ee ss kk => ∃ (j g v : Nat), n.E.length - j = mm ∧ ee = [(1, .ptr ⟨1, g, none⟩ 0 0), (20, .rsl 3 (n.E.map edgeV)), (21, .int .i64 n.E.length), (22, .int .i64 (j : Nat))] ∧ ss = [(1, some ⟨g, v, 2, [[.int .i64 n.N, .rsl 3 (n.E.map edgeV)]]⟩)] ∧ (j ≤ n.E.length ∧ (n.E.take j).all (edgeOk n.N) = true)) ?_ ?_
    · refine ⟨_, 0, ?_, ?_, rfl, ?henv, ?hstore, ?hst⟩
      case henv =>
        repeat' (first | rfl | refine env_cons ?_ ?_ | refine st_cons ?_ ?_ ?_ ?_ | refine int_eq ?_ | refine bool_eq ?_ | refine rsl_eq ?_ | refine osl_eq ?_ | refine sl_eq ?_ ?_ ?_ | refine ptr_eq ?_ ?_ ?_ | refine agg_eq ?_ | refine es_cons ?_ ?_ | refine row_cons ?_ ?_)
        all_goals (first | (simp; done) | omega | (simp; omega))
      case hstore =>
        repeat' (first | rfl | refine env_cons ?_ ?_ | refine st_cons ?_ ?_ ?_ ?_ | refine int_eq ?_ | refine bool_eq ?_ | refine rsl_eq ?_ | refine osl_eq ?_ | refine sl_eq ?_ ?_ ?_ | refine ptr_eq ?_ ?_ ?_ | refine agg_eq ?_ | refine es_cons ?_ ?_ | refine row_cons ?_ ?_)
        all_goals (first | (simp; done) | omega | (simp; omega))
      case hst =>
        first | trivial | omega | (simp; done) | (simp; omega)
    rintro mm ee ss kk ⟨j, g, v, rfl, rfl, rfl, hI⟩
    generalize hQl1 : thenQ _ _ = Ql1
    obtain ⟨hj, hall⟩ := hI
    refine AW.seq fun K7 hK7 => ?_
    -- region 4
    refine AW.regionK 0 (fun _ => none) [1, 20, 21, 22, 23] [1] ?_
    simp only [go_sem, reduceIte, reduceCtorEq, Nat.reduceAdd, Nat.reduceMul, Nat.reduceEqDiff, Nat.reduceLT, Nat.reduceLeDiff, Nat.reduceSub, Nat.reducePow, Nat.reduceBEq, Int.reduceToNat, List.reduceReplicate]
    repeat with_reducible refine cj ?_ ?_
    all_goals try first | omega
    refine hK7 _ _ _ ?_; clear hK7
    refine AW.seq fun K8 hK8 => ?_
    -- cond 2
    refine AW.cond rfl (by simp only [go_sem, reduceIte, reduceCtorEq, Nat.reduceAdd, Nat.reduceMul, Nat.reduceEqDiff, Nat.reduceLT, Nat.reduceLeDiff, Nat.reduceSub, Nat.reducePow, Nat.reduceBEq, Int.reduceToNat, List.reduceReplicate]) ?_ ?_
    · intro hb
      try simp only [hB, decide_eq_true_eq, decide_eq_false_iff_not] at hb
      obtain ⟨x, hx⟩ := getI (l := n.E) (j := j) (by omega)
      have hxv := getV (f := edgeV) hx
      refine AW.skip ?_
      refine hK8 _ _ _ ?_; clear hK8
      refine AW.seq fun K9 hK9 => ?_
      refine AW.block ?_
      refine AW.seq fun K10 hK10 => ?_
      -- region 5
      refine AW.regionK 0 (fun _ => none) [1, 4, 20, 21, 22] [1, 4] ?_
      simp only [go_sem, reduceIte, reduceCtorEq, Nat.reduceAdd, Nat.reduceMul, Nat.reduceEqDiff, Nat.reduceLT, Nat.reduceLeDiff, Nat.reduceSub, Nat.reducePow, Nat.reduceBEq, Int.reduceToNat, List.reduceReplicate, Int.toNat_natCast, hxv, edgeV]
      repeat with_reducible refine cj ?_ ?_
      all_goals try first | omega
      refine hK10 _ _ _ ?_; clear hK10
      refine AW.seq fun K11 hK11 => ?_
      -- region 6
      refine AW.regionK 0 (fun _ => none) [1, 20, 21, 22, 64] [1] ?_
      simp only [go_sem, reduceIte, reduceCtorEq, Nat.reduceAdd, Nat.reduceMul, Nat.reduceEqDiff, Nat.reduceLT, Nat.reduceLeDiff, Nat.reduceSub, Nat.reducePow, Nat.reduceBEq, Int.reduceToNat, List.reduceReplicate]
      repeat with_reducible refine cj ?_ ?_
      all_goals try first | omega | (simp only [go_sem, reduceIte, reduceCtorEq, Nat.reduceAdd, Nat.reduceMul, Nat.reduceEqDiff, Nat.reduceLT, Nat.reduceLeDiff, Nat.reduceSub, Nat.reducePow, Nat.reduceBEq, Int.reduceToNat, List.reduceReplicate]; done) | (simp_all [go_sem]; done)
      refine hK11 _ _ _ ?_; clear hK11
      -- cond 3
      refine AW.cond rfl (by simp only [go_sem, reduceIte, reduceCtorEq, Nat.reduceAdd, Nat.reduceMul, Nat.reduceEqDiff, Nat.reduceLT, Nat.reduceLeDiff, Nat.reduceSub, Nat.reducePow, Nat.reduceBEq, Int.reduceToNat, List.reduceReplicate]) ?_ ?_
      · intro hb
        try simp only [hB, decide_eq_true_eq, decide_eq_false_iff_not] at hb
        refine AW.seq fun K12 hK12 => ?_
        -- region 7
        refine AW.regionK 0 (fun _ => none) [2] [] ?_
        simp only [go_sem, reduceIte, reduceCtorEq, Nat.reduceAdd, Nat.reduceMul, Nat.reduceEqDiff, Nat.reduceLT, Nat.reduceLeDiff, Nat.reduceSub, Nat.reducePow, Nat.reduceBEq, Int.reduceToNat, List.reduceReplicate]
        repeat with_reducible refine cj ?_ ?_
        all_goals try first | omega
        refine hK12 _ _ _ ?_; clear hK12
        refine AW.ret ?_
        rw [← hQl1]
        rw [← hQr]
        simp only [go_sem, reduceIte, reduceCtorEq, Nat.reduceAdd, Nat.reduceMul, Nat.reduceEqDiff, Nat.reduceLT, Nat.reduceLeDiff, Nat.reduceSub, Nat.reducePow, Nat.reduceBEq, Int.reduceToNat, List.reduceReplicate]
        exact Wk.of_eq (by congr 1; symm; simp only [validB]; rw [all_false_of hx (by simp [edgeOk]; omega)]; simp)
      · intro hb
        try simp only [hB, decide_eq_true_eq, decide_eq_false_iff_not] at hb
        refine AW.skip ?_
        refine hK9 _ _ _ ?_; clear hK9
        -- region 8
        refine AW.regionK 0 (fun _ => none) [1, 20, 21, 22] [1] ?_
        simp only [go_sem, reduceIte, reduceCtorEq, Nat.reduceAdd, Nat.reduceMul, Nat.reduceEqDiff, Nat.reduceLT, Nat.reduceLeDiff, Nat.reduceSub, Nat.reducePow, Nat.reduceBEq, Int.reduceToNat, List.reduceReplicate]
        repeat with_reducible refine cj ?_ ?_
        all_goals try first | omega
        rw [← hQl1]
        change Exists _
        refine ⟨_, ?hm, j + 1, ?_, ?_, rfl, ?henv, ?hstore, ?hst⟩
        case henv =>
          repeat' (first | rfl | refine env_cons ?_ ?_ | refine st_cons ?_ ?_ ?_ ?_ | refine int_eq ?_ | refine bool_eq ?_ | refine rsl_eq ?_ | refine osl_eq ?_ | refine sl_eq ?_ ?_ ?_ | refine ptr_eq ?_ ?_ ?_ | refine agg_eq ?_ | refine es_cons ?_ ?_ | refine row_cons ?_ ?_)
          all_goals (first | (simp; done) | omega | (simp; omega))
        case hstore =>
          repeat' (first | rfl | refine env_cons ?_ ?_ | refine st_cons ?_ ?_ ?_ ?_ | refine int_eq ?_ | refine bool_eq ?_ | refine rsl_eq ?_ | refine osl_eq ?_ | refine sl_eq ?_ ?_ ?_ | refine ptr_eq ?_ ?_ ?_ | refine agg_eq ?_ | refine es_cons ?_ ?_ | refine row_cons ?_ ?_)
          all_goals (first | (simp; done) | omega | (simp; omega))
        case hst =>
          exact ⟨by omega, by rw [all_take_succ hx, hall]; simp [edgeOk]; omega⟩
        case hm => omega
    · intro hb
      try simp only [hB, decide_eq_true_eq, decide_eq_false_iff_not] at hb
      refine AW.keep [] [] ?_
      try simp only [go_sem, reduceIte, reduceCtorEq, Nat.reduceAdd, Nat.reduceMul, Nat.reduceEqDiff, Nat.reduceLT, Nat.reduceLeDiff, Nat.reduceSub, Nat.reducePow, Nat.reduceBEq, Int.reduceToNat, List.reduceReplicate]
      refine AW.exit ?_
      rw [← hQl1]
      refine hK5 _ _ _ ?_; clear hK5
      refine AW.seq fun K13 hK13 => ?_
      -- region 9
      refine AW.regionK 0 (fun _ => none) [2] [] ?_
      simp only [go_sem, reduceIte, reduceCtorEq, Nat.reduceAdd, Nat.reduceMul, Nat.reduceEqDiff, Nat.reduceLT, Nat.reduceLeDiff, Nat.reduceSub, Nat.reducePow, Nat.reduceBEq, Int.reduceToNat, List.reduceReplicate]
      repeat with_reducible refine cj ?_ ?_
      all_goals try first | omega
      refine hK13 _ _ _ ?_; clear hK13
      refine AW.ret ?_
      rw [← hQr]
      simp only [go_sem, reduceIte, reduceCtorEq, Nat.reduceAdd, Nat.reduceMul, Nat.reduceEqDiff, Nat.reduceLT, Nat.reduceLeDiff, Nat.reduceSub, Nat.reducePow, Nat.reduceBEq, Int.reduceToNat, List.reduceReplicate]
      exact Wk.of_eq (by congr 1; symm; simp only [validB]; rw [take_all (by omega)] at hall; rw [hall]; simp; omega)
theorem rvalid_r (n : Net) (hlen : n.E.length ≤ 9223372036854775807) : Reads Try.prog 13 false [netV n] (.bool (validB n)) := by
  unfold netV
  refine Reads.body (rs := [.tmp 2]) Try.func13 rfl Try.ntmps13 rfl (by simp) ?_
  generalize hQr : retQ _ _ _ = Qr
  refine AW.seq fun K1 hK1 => ?_
  -- region 0
  refine AW.regionK 0 (fun _ => none) [1] [1] ?_
  simp only [go_sem, reduceIte, reduceCtorEq, Nat.reduceAdd, Nat.reduceMul, Nat.reduceEqDiff, Nat.reduceLT, Nat.reduceLeDiff, Nat.reduceSub, Nat.reducePow, Nat.reduceBEq, Int.reduceToNat, List.reduceReplicate]
  repeat with_reducible refine cj ?_ ?_
  all_goals try first | omega
  refine hK1 _ _ _ ?_; clear hK1
  refine AW.seq fun K2 hK2 => ?_
  refine AW.seq fun K3 hK3 => ?_
  -- region 1
  refine AW.regionK 0 (fun _ => none) [1, 18] [1] ?_
  simp only [go_sem, reduceIte, reduceCtorEq, Nat.reduceAdd, Nat.reduceMul, Nat.reduceEqDiff, Nat.reduceLT, Nat.reduceLeDiff, Nat.reduceSub, Nat.reducePow, Nat.reduceBEq, Int.reduceToNat, List.reduceReplicate]
  repeat with_reducible refine cj ?_ ?_
  all_goals try first | omega | (simp only [go_sem, reduceIte, reduceCtorEq, Nat.reduceAdd, Nat.reduceMul, Nat.reduceEqDiff, Nat.reduceLT, Nat.reduceLeDiff, Nat.reduceSub, Nat.reducePow, Nat.reduceBEq, Int.reduceToNat, List.reduceReplicate]; done) | (simp_all [go_sem]; done)
  refine hK3 _ _ _ ?_; clear hK3
  -- cond 1
  refine AW.cond rfl (by simp only [go_sem, reduceIte, reduceCtorEq, Nat.reduceAdd, Nat.reduceMul, Nat.reduceEqDiff, Nat.reduceLT, Nat.reduceLeDiff, Nat.reduceSub, Nat.reducePow, Nat.reduceBEq, Int.reduceToNat, List.reduceReplicate]) ?_ ?_
  · intro hb
    try simp only [hB, decide_eq_true_eq, decide_eq_false_iff_not] at hb
    refine AW.seq fun K4 hK4 => ?_
    -- region 2
    refine AW.regionK 0 (fun _ => none) [2] [] ?_
    simp only [go_sem, reduceIte, reduceCtorEq, Nat.reduceAdd, Nat.reduceMul, Nat.reduceEqDiff, Nat.reduceLT, Nat.reduceLeDiff, Nat.reduceSub, Nat.reducePow, Nat.reduceBEq, Int.reduceToNat, List.reduceReplicate]
    repeat with_reducible refine cj ?_ ?_
    all_goals try first | omega
    refine hK4 _ _ _ ?_; clear hK4
    refine AW.ret ?_
    rw [← hQr]
    simp only [go_sem, reduceIte, reduceCtorEq, Nat.reduceAdd, Nat.reduceMul, Nat.reduceEqDiff, Nat.reduceLT, Nat.reduceLeDiff, Nat.reduceSub, Nat.reducePow, Nat.reduceBEq, Int.reduceToNat, List.reduceReplicate]
    exact Wk.of_eq (by congr 1; symm; simp [validB]; omega)
  · intro hb
    try simp only [hB, decide_eq_true_eq, decide_eq_false_iff_not] at hb
    refine AW.skip ?_
    refine hK2 _ _ _ ?_; clear hK2
    refine AW.seq fun K5 hK5 => ?_
    refine AW.seq fun K6 hK6 => ?_
    -- region 3
    refine AW.regionK 0 (fun _ => none) [1, 3] [1] ?_
    simp only [go_sem, reduceIte, reduceCtorEq, Nat.reduceAdd, Nat.reduceMul, Nat.reduceEqDiff, Nat.reduceLT, Nat.reduceLeDiff, Nat.reduceSub, Nat.reducePow, Nat.reduceBEq, Int.reduceToNat, List.reduceReplicate]
    repeat with_reducible refine cj ?_ ?_
    all_goals try first | omega
    refine hK6 _ _ _ ?_; clear hK6
    refine AW.block ?_
    -- loop 1
    refine AW.loopE (fun mm ee ss kk => ∃ (j g v : Nat), n.E.length - j = mm ∧ ee = [(1, .ptr ⟨1, g, none⟩ 0 0), (3, .int .i64 (j : Nat))] ∧ ss = [(1, some ⟨g, v, 2, [[.int .i64 n.N, .rsl 3 (n.E.map edgeV)]]⟩)] ∧ (j ≤ n.E.length ∧ (n.E.take j).all (edgeOk n.N) = true)) ?_ ?_
    · refine ⟨_, 0, ?_, ?_, rfl, ?henv, ?hstore, ?hst⟩
      case henv =>
        repeat' (first | rfl | refine env_cons ?_ ?_ | refine st_cons ?_ ?_ ?_ ?_ | refine int_eq ?_ | refine bool_eq ?_ | refine rsl_eq ?_ | refine osl_eq ?_ | refine sl_eq ?_ ?_ ?_ | refine ptr_eq ?_ ?_ ?_ | refine agg_eq ?_ | refine es_cons ?_ ?_ | refine row_cons ?_ ?_)
        all_goals (first | (simp; done) | omega | (simp; omega))
      case hstore =>
        repeat' (first | rfl | refine env_cons ?_ ?_ | refine st_cons ?_ ?_ ?_ ?_ | refine int_eq ?_ | refine bool_eq ?_ | refine rsl_eq ?_ | refine osl_eq ?_ | refine sl_eq ?_ ?_ ?_ | refine ptr_eq ?_ ?_ ?_ | refine agg_eq ?_ | refine es_cons ?_ ?_ | refine row_cons ?_ ?_)
        all_goals (first | (simp; done) | omega | (simp; omega))
      case hst =>
        first | trivial | omega | (simp; done) | (simp; omega)
    rintro mm ee ss kk ⟨j, g, v, rfl, rfl, rfl, hI⟩
    generalize hQl1 : thenQ _ _ = Ql1
    obtain ⟨hj, hall⟩ := hI
    refine AW.seq fun K7 hK7 => ?_
    refine AW.seq fun K8 hK8 => ?_
    -- region 4
    refine AW.regionK 0 (fun _ => none) [1, 3, 23] [1] ?_
    simp only [go_sem, reduceIte, reduceCtorEq, Nat.reduceAdd, Nat.reduceMul, Nat.reduceEqDiff, Nat.reduceLT, Nat.reduceLeDiff, Nat.reduceSub, Nat.reducePow, Nat.reduceBEq, Int.reduceToNat, List.reduceReplicate]
    repeat with_reducible refine cj ?_ ?_
    all_goals try first | omega
    refine hK8 _ _ _ ?_; clear hK8
    -- cond 2
    refine AW.cond rfl (by simp only [go_sem, reduceIte, reduceCtorEq, Nat.reduceAdd, Nat.reduceMul, Nat.reduceEqDiff, Nat.reduceLT, Nat.reduceLeDiff, Nat.reduceSub, Nat.reducePow, Nat.reduceBEq, Int.reduceToNat, List.reduceReplicate]) ?_ ?_
    · intro hb
      try simp only [hB, decide_eq_true_eq, decide_eq_false_iff_not] at hb
      obtain ⟨x, hx⟩ := getI (l := n.E) (j := j) (by omega)
      have hxv := getV (f := edgeV) hx
      refine AW.skip ?_
      refine hK7 _ _ _ ?_; clear hK7
      refine AW.seq fun K9 hK9 => ?_
      refine AW.block ?_
      refine AW.seq fun K10 hK10 => ?_
      -- region 6
      refine AW.regionK 0 (fun _ => none) [1, 3, 4] [1, 4] ?_
      simp only [go_sem, reduceIte, reduceCtorEq, Nat.reduceAdd, Nat.reduceMul, Nat.reduceEqDiff, Nat.reduceLT, Nat.reduceLeDiff, Nat.reduceSub, Nat.reducePow, Nat.reduceBEq, Int.reduceToNat, List.reduceReplicate, Int.toNat_natCast, hxv, edgeV]
      repeat with_reducible refine cj ?_ ?_
      all_goals try first | omega
      refine hK10 _ _ _ ?_; clear hK10
      refine AW.seq fun K11 hK11 => ?_
      -- region 7
      refine AW.regionK 0 (fun _ => none) [1, 3, 69] [1] ?_
      simp only [go_sem, reduceIte, reduceCtorEq, Nat.reduceAdd, Nat.reduceMul, Nat.reduceEqDiff, Nat.reduceLT, Nat.reduceLeDiff, Nat.reduceSub, Nat.reducePow, Nat.reduceBEq, Int.reduceToNat, List.reduceReplicate]
      repeat with_reducible refine cj ?_ ?_
      all_goals try first | omega | (simp only [go_sem, reduceIte, reduceCtorEq, Nat.reduceAdd, Nat.reduceMul, Nat.reduceEqDiff, Nat.reduceLT, Nat.reduceLeDiff, Nat.reduceSub, Nat.reducePow, Nat.reduceBEq, Int.reduceToNat, List.reduceReplicate]; done) | (simp_all [go_sem]; done)
      refine hK11 _ _ _ ?_; clear hK11
      -- cond 3
      refine AW.cond rfl (by simp only [go_sem, reduceIte, reduceCtorEq, Nat.reduceAdd, Nat.reduceMul, Nat.reduceEqDiff, Nat.reduceLT, Nat.reduceLeDiff, Nat.reduceSub, Nat.reducePow, Nat.reduceBEq, Int.reduceToNat, List.reduceReplicate]) ?_ ?_
      · intro hb
        try simp only [hB, decide_eq_true_eq, decide_eq_false_iff_not] at hb
        refine AW.seq fun K12 hK12 => ?_
        -- region 8
        refine AW.regionK 0 (fun _ => none) [2] [] ?_
        simp only [go_sem, reduceIte, reduceCtorEq, Nat.reduceAdd, Nat.reduceMul, Nat.reduceEqDiff, Nat.reduceLT, Nat.reduceLeDiff, Nat.reduceSub, Nat.reducePow, Nat.reduceBEq, Int.reduceToNat, List.reduceReplicate]
        repeat with_reducible refine cj ?_ ?_
        all_goals try first | omega
        refine hK12 _ _ _ ?_; clear hK12
        refine AW.ret ?_
        rw [← hQl1]
        rw [← hQr]
        simp only [go_sem, reduceIte, reduceCtorEq, Nat.reduceAdd, Nat.reduceMul, Nat.reduceEqDiff, Nat.reduceLT, Nat.reduceLeDiff, Nat.reduceSub, Nat.reducePow, Nat.reduceBEq, Int.reduceToNat, List.reduceReplicate]
        exact Wk.of_eq (by congr 1; symm; simp only [validB]; rw [all_false_of hx (by simp [edgeOk]; omega)]; simp)
      · intro hb
        try simp only [hB, decide_eq_true_eq, decide_eq_false_iff_not] at hb
        refine AW.skip ?_
        refine hK9 _ _ _ ?_; clear hK9
        -- region 5
        refine AW.regionK 0 (fun _ => none) [1, 3] [1] ?_
        simp only [go_sem, reduceIte, reduceCtorEq, Nat.reduceAdd, Nat.reduceMul, Nat.reduceEqDiff, Nat.reduceLT, Nat.reduceLeDiff, Nat.reduceSub, Nat.reducePow, Nat.reduceBEq, Int.reduceToNat, List.reduceReplicate]
        repeat with_reducible refine cj ?_ ?_
        all_goals try first | omega
        rw [← hQl1]
        change Exists _
        refine ⟨_, ?hm, j + 1, ?_, ?_, rfl, ?henv, ?hstore, ?hst⟩
        case henv =>
          repeat' (first | rfl | refine env_cons ?_ ?_ | refine st_cons ?_ ?_ ?_ ?_ | refine int_eq ?_ | refine bool_eq ?_ | refine rsl_eq ?_ | refine osl_eq ?_ | refine sl_eq ?_ ?_ ?_ | refine ptr_eq ?_ ?_ ?_ | refine agg_eq ?_ | refine es_cons ?_ ?_ | refine row_cons ?_ ?_)
          all_goals (first | (simp; done) | omega | (simp; omega))
        case hstore =>
          repeat' (first | rfl | refine env_cons ?_ ?_ | refine st_cons ?_ ?_ ?_ ?_ | refine int_eq ?_ | refine bool_eq ?_ | refine rsl_eq ?_ | refine osl_eq ?_ | refine sl_eq ?_ ?_ ?_ | refine ptr_eq ?_ ?_ ?_ | refine agg_eq ?_ | refine es_cons ?_ ?_ | refine row_cons ?_ ?_)
          all_goals (first | (simp; done) | omega | (simp; omega))
        case hst =>
          exact ⟨by omega, by rw [all_take_succ hx, hall]; simp [edgeOk]; omega⟩
        case hm => omega
    · intro hb
      try simp only [hB, decide_eq_true_eq, decide_eq_false_iff_not] at hb
      refine AW.keep [] [] ?_
      try simp only [go_sem, reduceIte, reduceCtorEq, Nat.reduceAdd, Nat.reduceMul, Nat.reduceEqDiff, Nat.reduceLT, Nat.reduceLeDiff, Nat.reduceSub, Nat.reducePow, Nat.reduceBEq, Int.reduceToNat, List.reduceReplicate]
      refine AW.exit ?_
      rw [← hQl1]
      refine hK5 _ _ _ ?_; clear hK5
      refine AW.seq fun K13 hK13 => ?_
      -- region 9
      refine AW.regionK 0 (fun _ => none) [2] [] ?_
      simp only [go_sem, reduceIte, reduceCtorEq, Nat.reduceAdd, Nat.reduceMul, Nat.reduceEqDiff, Nat.reduceLT, Nat.reduceLeDiff, Nat.reduceSub, Nat.reducePow, Nat.reduceBEq, Int.reduceToNat, List.reduceReplicate]
      repeat with_reducible refine cj ?_ ?_
      all_goals try first | omega
      refine hK13 _ _ _ ?_; clear hK13
      refine AW.ret ?_
      rw [← hQr]
      simp only [go_sem, reduceIte, reduceCtorEq, Nat.reduceAdd, Nat.reduceMul, Nat.reduceEqDiff, Nat.reduceLT, Nat.reduceLeDiff, Nat.reduceSub, Nat.reducePow, Nat.reduceBEq, Int.reduceToNat, List.reduceReplicate]
      exact Wk.of_eq (by congr 1; symm; simp only [validB]; rw [take_all (by omega)] at hall; rw [hall]; simp; omega)
def checkC (n : Net) (s t : Int) : Nat := if validB n then if endsB n s t then 0 else 2 else 1
theorem check_r (n : Net) (s t : Int) (hlen : n.E.length ≤ 9223372036854775807) : Reads Try.prog 38 false [netV n, .int .i64 s, .int .i64 t] (.int .i64 (checkC n s t)) := by
  have hv := valid_r n hlen
  have he := ends_r n s t
  unfold netV at *
  refine Reads.body (rs := [.tmp 6]) Try.func38 rfl Try.ntmps38 rfl (by simp) ?_
  generalize hQr : retQ _ _ _ = Qr
  refine AW.seq fun K1 hK1 => ?_
  -- region 0
  refine AW.regionK 0 (fun _ => none) [1, 2, 3] [3] ?_
  simp only [go_sem, reduceIte, reduceCtorEq, Nat.reduceAdd, Nat.reduceMul, Nat.reduceEqDiff, Nat.reduceLT, Nat.reduceLeDiff, Nat.reduceSub, Nat.reducePow, Nat.reduceBEq, Int.reduceToNat, List.reduceReplicate]
  repeat with_reducible refine cj ?_ ?_
  all_goals try first | omega
  refine hK1 _ _ _ ?_; clear hK1
  refine AW.seq fun K2 hK2 => ?_
  refine AW.block ?_
  refine AW.seq fun K3 hK3 => ?_
  -- region 1
  refine AW.regionK 0 (fun i => if i = 1 then some (.reads false (.bool (validB n))) else none) [1, 2, 3, 7] [3] ?_
  simp only [go_sem, reduceIte, reduceCtorEq, Nat.reduceAdd, Nat.reduceMul, Nat.reduceEqDiff, Nat.reduceLT, Nat.reduceLeDiff, Nat.reduceSub, Nat.reducePow, Nat.reduceBEq, Int.reduceToNat, List.reduceReplicate]
  repeat with_reducible refine cj ?_ ?_
  all_goals try first | omega | exact ent (by kernel_rfl)
  refine hK3 _ _ _ ?_; clear hK3
  -- cond 1
  refine AW.cond rfl (by simp only [go_sem, reduceIte, reduceCtorEq, Nat.reduceAdd, Nat.reduceMul, Nat.reduceEqDiff, Nat.reduceLT, Nat.reduceLeDiff, Nat.reduceSub, Nat.reducePow, Nat.reduceBEq, Int.reduceToNat, List.reduceReplicate]) ?_ ?_
  · intro hb
    try simp only [hB, decide_eq_true_eq, decide_eq_false_iff_not] at hb
    refine AW.seq fun K4 hK4 => ?_
    -- region 2
    refine AW.regionK 0 (fun _ => none) [6] [] ?_
    simp only [go_sem, reduceIte, reduceCtorEq, Nat.reduceAdd, Nat.reduceMul, Nat.reduceEqDiff, Nat.reduceLT, Nat.reduceLeDiff, Nat.reduceSub, Nat.reducePow, Nat.reduceBEq, Int.reduceToNat, List.reduceReplicate]
    repeat with_reducible refine cj ?_ ?_
    all_goals try first | omega
    refine hK4 _ _ _ ?_; clear hK4
    refine AW.ret ?_
    rw [← hQr]
    simp only [go_sem, reduceIte, reduceCtorEq, Nat.reduceAdd, Nat.reduceMul, Nat.reduceEqDiff, Nat.reduceLT, Nat.reduceLeDiff, Nat.reduceSub, Nat.reducePow, Nat.reduceBEq, Int.reduceToNat, List.reduceReplicate]
    exact Wk.of_eq (by simp [checkC, hb])
  · intro hb
    try simp only [hB, decide_eq_true_eq, decide_eq_false_iff_not] at hb
    refine AW.seq fun K5 hK5 => ?_
    -- region 3
    refine AW.regionK 0 (fun i => if i = 3 then some (.reads false (.bool (endsB n s t))) else none) [11] [] ?_
    simp only [go_sem, reduceIte, reduceCtorEq, Nat.reduceAdd, Nat.reduceMul, Nat.reduceEqDiff, Nat.reduceLT, Nat.reduceLeDiff, Nat.reduceSub, Nat.reducePow, Nat.reduceBEq, Int.reduceToNat, List.reduceReplicate]
    repeat with_reducible refine cj ?_ ?_
    all_goals try first | omega | exact ent (by kernel_rfl)
    refine hK5 _ _ _ ?_; clear hK5
    -- cond 2
    refine AW.cond rfl (by simp only [go_sem, reduceIte, reduceCtorEq, Nat.reduceAdd, Nat.reduceMul, Nat.reduceEqDiff, Nat.reduceLT, Nat.reduceLeDiff, Nat.reduceSub, Nat.reducePow, Nat.reduceBEq, Int.reduceToNat, List.reduceReplicate]) ?_ ?_
    · intro hb
      try simp only [hB, decide_eq_true_eq, decide_eq_false_iff_not] at hb
      refine AW.seq fun K6 hK6 => ?_
      -- region 4
      refine AW.regionK 0 (fun _ => none) [6] [] ?_
      simp only [go_sem, reduceIte, reduceCtorEq, Nat.reduceAdd, Nat.reduceMul, Nat.reduceEqDiff, Nat.reduceLT, Nat.reduceLeDiff, Nat.reduceSub, Nat.reducePow, Nat.reduceBEq, Int.reduceToNat, List.reduceReplicate]
      repeat with_reducible refine cj ?_ ?_
      all_goals try first | omega
      refine hK6 _ _ _ ?_; clear hK6
      refine AW.ret ?_
      rw [← hQr]
      simp only [go_sem, reduceIte, reduceCtorEq, Nat.reduceAdd, Nat.reduceMul, Nat.reduceEqDiff, Nat.reduceLT, Nat.reduceLeDiff, Nat.reduceSub, Nat.reducePow, Nat.reduceBEq, Int.reduceToNat, List.reduceReplicate]
      exact Wk.of_eq (by simp_all [checkC])
    · intro hb
      try simp only [hB, decide_eq_true_eq, decide_eq_false_iff_not] at hb
      refine AW.skip ?_
      refine hK2 _ _ _ ?_; clear hK2
      refine AW.seq fun K7 hK7 => ?_
      -- region 5
      refine AW.regionK 0 (fun _ => none) [6] [] ?_
      simp only [go_sem, reduceIte, reduceCtorEq, Nat.reduceAdd, Nat.reduceMul, Nat.reduceEqDiff, Nat.reduceLT, Nat.reduceLeDiff, Nat.reduceSub, Nat.reducePow, Nat.reduceBEq, Int.reduceToNat, List.reduceReplicate]
      repeat with_reducible refine cj ?_ ?_
      all_goals try first | omega
      refine hK7 _ _ _ ?_; clear hK7
      refine AW.ret ?_
      rw [← hQr]
      simp only [go_sem, reduceIte, reduceCtorEq, Nat.reduceAdd, Nat.reduceMul, Nat.reduceEqDiff, Nat.reduceLT, Nat.reduceLeDiff, Nat.reduceSub, Nat.reducePow, Nat.reduceBEq, Int.reduceToNat, List.reduceReplicate]
      exact Wk.of_eq (by simp_all [checkC])
end Go.Proofs.F
namespace Go.Proofs.F
open Go.AM Go
set_option maxRecDepth 100000
set_option maxHeartbeats 1000000
theorem open_u (n : Net) (hv : validB n = true) : Upd Try.prog 39 [] [netV n] (fun k => .ptr ⟨0, k, none⟩ 0 0)
    (fun k => [(0, some ⟨k, k, 2, [[.osl 2 ((openP n).1.map arcV), .sl ⟨1, k, none⟩ 0 n.N.toNat none]]⟩), (1, some ⟨k, k, 1, leaveV (openP n).2⟩)]) := by
  obtain ⟨hN1, hN2, hE⟩ := valid_size hv
  unfold netV
  refine Upd.of_body (rs := [.tmp 2]) Try.func39 rfl Try.ntmps39 rfl (by simp) ?_
  intro k0 k hk0 hk1
  generalize hQr : retQ _ _ _ = Qr
  refine AW.seq fun K1 hK1 => ?_
  -- region 0
  refine AW.regionK 100 (fun _ => none) [1] [101] ?_
  simp only [go_sem, reduceIte, reduceCtorEq, Nat.reduceAdd, Nat.reduceMul, Nat.reduceEqDiff, Nat.reduceLT, Nat.reduceLeDiff, Nat.reduceSub, Nat.reducePow, Nat.reduceBEq, Int.reduceToNat, List.reduceReplicate]
  repeat with_reducible refine cj ?_ ?_
  all_goals try first | omega
  refine hK1 _ _ _ ?_; clear hK1
  refine AW.seq fun K2 hK2 => ?_
  -- region 1
  refine AW.regionK 100 (fun _ => none) [1, 3] [101, 109, 111] ?_
  simp only [go_sem, reduceIte, reduceCtorEq, Nat.reduceAdd, Nat.reduceMul, Nat.reduceEqDiff, Nat.reduceLT, Nat.reduceLeDiff, Nat.reduceSub, Nat.reducePow, Nat.reduceBEq, Int.reduceToNat, List.reduceReplicate]
  repeat with_reducible refine cj ?_ ?_
  all_goals try first | omega
  refine hK2 _ _ _ ?_; clear hK2
  refine AW.nils_own (pid := 109) 1 (leaveV (List.replicate n.N.toNat [])) (by simp only [go_sem, reduceIte, Nat.reduceEqDiff]; rfl) (by simp [leaveV]) ?_ ?_
  · intro i hi
    simp only [List.length_replicate] at hi
    have h1 : (List.replicate n.N.toNat [AV.nilsl]).getD i [] = [.nilsl] := by simp [List.getD_eq_getElem?_getD, hi]
    rw [h1, leaveV_get (by simpa using hi)]
    refine ⟨rfl, fun j => ?_⟩
    cases j with
    | zero => exact .inr ⟨rfl, by simp [List.getD_eq_getElem?_getD, hi, ints]⟩
    | succ j => exact .inl rfl
  refine AW.nils_own (pid := 111) 2 [[.osl 2 [], .sl ⟨109, k + 8, none⟩ 0 n.N.toNat none]] (by simp only [go_sem, reduceIte, Nat.reduceEqDiff]; rfl) rfl ?_ ?_
  · intro i hi
    match i, hi with
    | 0, _ =>
      refine ⟨rfl, fun j => ?_⟩
      match j with
      | 0 => exact .inr ⟨rfl, rfl⟩
      | 1 => exact .inl rfl
      | j + 2 => exact .inl rfl
  refine AW.keep [1, 3] [101, 109, 111] ?_
  simp only [go_sem, reduceIte, Nat.reduceEqDiff]
  refine AW.seq fun K3 hK3 => ?_
  refine AW.seq fun K4 hK4 => ?_
  -- region 2
  refine AW.regionK 100 (fun _ => none) [3, 13, 14, 15] [109, 111] ?_
  simp only [go_sem, reduceIte, reduceCtorEq, Nat.reduceAdd, Nat.reduceMul, Nat.reduceEqDiff, Nat.reduceLT, Nat.reduceLeDiff, Nat.reduceSub, Nat.reducePow, Nat.reduceBEq, Int.reduceToNat, List.reduceReplicate]
  repeat with_reducible refine cj ?_ ?_
  all_goals try first | omega
  refine hK4 _ _ _ ?_; clear hK4
  refine AW.block ?_
  -- loop 1
  refine AW.loopE (fun mm ee ss kk => ∃ (j g9 v9 g11 v11 : Nat), n.E.length - j = mm ∧ ee = [(3, .ptr ⟨111, g11, none⟩ 0 0), (13, .rsl 3 (n.E.map edgeV)), (14, .int .i64 n.E.length), (15, .int .i64 (j : Nat))] ∧ ss = [(109, some ⟨g9, v9, 1, leaveV (openAt n j).2⟩), (111, some ⟨g11, v11, 2, [[.osl 2 ((openAt n j).1.map arcV), .sl ⟨109, g9, none⟩ 0 n.N.toNat none]]⟩)] ∧ (j ≤ n.E.length)) ?_ ?_
  · refine ⟨_, 0, ?_, ?_, ?_, ?_, rfl, ?henv, ?hstore, ?hst⟩
    case henv =>
      repeat' (first | rfl | refine env_cons ?_ ?_ | refine st_cons ?_ ?_ ?_ ?_ | refine int_eq ?_ | refine bool_eq ?_ | refine rsl_eq ?_ | refine osl_eq ?_ | refine sl_eq ?_ ?_ ?_ | refine ptr_eq ?_ ?_ ?_ | refine agg_eq ?_ | refine es_cons ?_ ?_ | refine row_cons ?_ ?_)
      all_goals (first | (simp; done) | omega | (simp; omega))
    case hstore =>
      repeat' (first | rfl | refine env_cons ?_ ?_ | refine st_cons ?_ ?_ ?_ ?_ | refine int_eq ?_ | refine bool_eq ?_ | refine rsl_eq ?_ | refine osl_eq ?_ | refine sl_eq ?_ ?_ ?_ | refine ptr_eq ?_ ?_ ?_ | refine agg_eq ?_ | refine es_cons ?_ ?_ | refine row_cons ?_ ?_)
      all_goals (first | (simp; done) | omega | (simp; omega))
    case hst =>
      first | trivial | omega | (simp; done) | (simp; omega)
  rintro mm ee ss kk ⟨j, g9, v9, g11, v11, rfl, rfl, rfl, hI⟩
  generalize hQl1 : thenQ _ _ = Ql1
  refine AW.seq fun K5 hK5 => ?_
  -- region 3
  refine AW.regionK 100 (fun _ => none) [3, 13, 14, 15, 16] [109, 111, 138, 157, 176] ?_
  simp only [go_sem, reduceIte, reduceCtorEq, Nat.reduceAdd, Nat.reduceMul, Nat.reduceEqDiff, Nat.reduceLT, Nat.reduceLeDiff, Nat.reduceSub, Nat.reducePow, Nat.reduceBEq, Int.reduceToNat, List.reduceReplicate]
  repeat with_reducible refine cj ?_ ?_
  all_goals try first | omega
  refine hK5 _ _ _ ?_; clear hK5
  refine AW.seq fun K6 hK6 => ?_
  -- cond 1
  refine AW.cond rfl (by simp only [go_sem, reduceIte, reduceCtorEq, Nat.reduceAdd, Nat.reduceMul, Nat.reduceEqDiff, Nat.reduceLT, Nat.reduceLeDiff, Nat.reduceSub, Nat.reducePow, Nat.reduceBEq, Int.reduceToNat, List.reduceReplicate]) ?_ ?_
  · intro hb
    try simp only [hB, decide_eq_true_eq, decide_eq_false_iff_not] at hb
    obtain ⟨x, hx⟩ := getI (l := n.E) (j := j) (by omega)
    have hxv := getV (f := edgeV) hx
    have hxe := valid_edge hv hx
    have hol := openAt_len n j
    have hos := openAt_succ hx
    have hr1 := openAt_row n x.fr.toNat j
    refine AW.skip ?_
    refine hK6 _ _ _ ?_; clear hK6
    refine AW.seq fun K7 hK7 => ?_
    refine AW.block ?_
    refine AW.seq fun K8 hK8 => ?_
    -- region 4
    refine AW.regionK 100 (fun _ => none) [3, 5, 13, 14, 15] [105, 109, 111, 138, 157, 176] ?_
    simp only [go_sem, reduceIte, reduceCtorEq, Nat.reduceAdd, Nat.reduceMul, Nat.reduceEqDiff, Nat.reduceLT, Nat.reduceLeDiff, Nat.reduceSub, Nat.reducePow, Nat.reduceBEq, Int.reduceToNat, List.reduceReplicate, Int.toNat_natCast, hxv, edgeV]
    repeat with_reducible refine cj ?_ ?_
    all_goals try first | omega
    refine hK8 _ _ _ ?_; clear hK8
    refine AW.seq fun K9 hK9 => ?_
    -- region 5
    refine AW.regionK 100 (fun _ => none) [3, 5, 6, 13, 14, 15] [105, 109, 111, 138, 157, 176] ?_
    simp only [go_sem, reduceIte, reduceCtorEq, Nat.reduceAdd, Nat.reduceMul, Nat.reduceEqDiff, Nat.reduceLT, Nat.reduceLeDiff, Nat.reduceSub, Nat.reducePow, Nat.reduceBEq, Int.reduceToNat, List.reduceReplicate]
    repeat with_reducible refine cj ?_ ?_
    all_goals try first | omega
    refine hK9 _ _ _ ?_; clear hK9
    refine AW.seq fun K10 hK10 => ?_
    -- region 6
    refine AW.regionD mixed 100 (fun _ => none) [3, 5, 6, 13, 14, 15] [105, 109, 111, 138, 157, 176] ?_
    simp only [go_sem, reduceIte, reduceCtorEq, Nat.reduceAdd, Nat.reduceMul, Nat.reduceEqDiff, Nat.reduceLT, Nat.reduceLeDiff, Nat.reduceSub, Nat.reducePow, Nat.reduceBEq, Int.reduceToNat, List.reduceReplicate, List.length_map]
    repeat with_reducible refine cj ?_ ?_
    all_goals try first | omega | exact chk (by kernel_rfl) | (simp [scP, scalar]; done)
    refine hK10 _ _ _ ?_; clear hK10
    refine AW.adoptK 111 0 0 138 ?_
    simp only [go_sem, reduceIte, Nat.reduceEqDiff]
    repeat refine cj ?_ ?_
    rotate_left
    · rw [List.take_of_length_le (by simp), arcs_app]; exact noOsl_arcs _
    · simp
    · decide
    refine AW.keep [3, 5, 6, 13, 14, 15] [105, 109, 111] ?_
    simp only [go_sem, reduceIte, Nat.reduceEqDiff]
    rw [List.take_of_length_le (by simp), arcs_app]
    refine AW.seq fun K11 hK11 => ?_
    have hg1 := leaveV_get (l := (openAt n j).2) (i := x.fr.toNat) (by omega)
    have hs1 : ∀ v, ((leaveV (openAt n j).2).set x.fr.toNat v).getD x.fr.toNat [] = v := fun v => getD_set_eq (by rw [leaveV_len]; omega) _ _
    -- region 7
    refine AW.regionD mixed 100 (fun _ => none) [3, 5, 6, 13, 14, 15] [105, 109, 111, 138, 157, 176] ?_
    simp only [go_sem, reduceIte, reduceCtorEq, Nat.reduceAdd, Nat.reduceMul, Nat.reduceEqDiff, Nat.reduceLT, Nat.reduceLeDiff, Nat.reduceSub, Nat.reducePow, Nat.reduceBEq, Int.reduceToNat, List.reduceReplicate, Int.toNat_natCast, leaveV_len, hg1, hs1, List.set_set, List.take_length, ints_app]
    repeat with_reducible refine cj ?_ ?_
    all_goals try first | ((rw [ints_len]; omega)) | omega | exact chk (by kernel_rfl) | (simp [scP, scalar]; done)
    refine hK11 _ _ _ ?_; clear hK11
    refine AW.adoptK 109 x.fr.toNat 0 157 ?_
    simp only [go_sem, reduceIte, Nat.reduceEqDiff, hs1, List.set_set, leaveV_set]
    generalize hl1 : (openAt n j).2.set x.fr.toNat ((openAt n j).2.getD x.fr.toNat [] ++ [((openAt n j).1.length : Int)]) = l1
    have hl2 : l1.length = n.N.toNat := by rw [← hl1]; simp; omega
    have hr2 : (l1.getD x.to.toNat []).length ≤ 2 * j + 1 := by rw [← hl1]; have := row_grow (openAt n j).2 x.fr.toNat x.to.toNat ((openAt n j).1.length : Int); have := openAt_row n x.to.toNat j; omega
    repeat refine cj ?_ ?_
    rotate_left
    · exact noOsl_ints _
    · simp [ints]
    · decide
    refine AW.keep [3, 5, 6, 13, 14, 15] [105, 109, 111] ?_
    simp only [go_sem, reduceIte, Nat.reduceEqDiff]
    have hg2 := leaveV_get (l := l1) (i := x.to.toNat) (by omega)
    have hs2 : ∀ v, ((leaveV l1).set x.to.toNat v).getD x.to.toNat [] = v := fun v => getD_set_eq (by rw [leaveV_len]; omega) _ _
    -- region 8
    refine AW.regionD mixed 100 (fun _ => none) [3, 13, 14, 15] [109, 111, 138, 157, 176] ?_
    simp only [go_sem, reduceIte, reduceCtorEq, Nat.reduceAdd, Nat.reduceMul, Nat.reduceEqDiff, Nat.reduceLT, Nat.reduceLeDiff, Nat.reduceSub, Nat.reducePow, Nat.reduceBEq, Int.reduceToNat, List.reduceReplicate, Int.toNat_natCast, leaveV_len, hg2, hs2, List.set_set, List.take_length, ints_app]
    repeat with_reducible refine cj ?_ ?_
    all_goals try first | ((rw [ints_len]; omega)) | omega | exact chk (by kernel_rfl) | (simp [scP, scalar]; done)
    refine hK7 _ _ _ ?_; clear hK7
    refine AW.adoptK 109 x.to.toNat 0 176 ?_
    simp only [go_sem, reduceIte, Nat.reduceEqDiff, hs2, List.set_set, leaveV_set]
    repeat refine cj ?_ ?_
    rotate_left
    · exact noOsl_ints _
    · simp [ints]
    · decide
    refine AW.keep [3, 13, 14, 15] [109, 111] ?_
    simp only [go_sem, reduceIte, Nat.reduceEqDiff]
    -- region 9
    refine AW.regionK 100 (fun _ => none) [3, 13, 14, 15] [109, 111] ?_
    simp only [go_sem, reduceIte, reduceCtorEq, Nat.reduceAdd, Nat.reduceMul, Nat.reduceEqDiff, Nat.reduceLT, Nat.reduceLeDiff, Nat.reduceSub, Nat.reducePow, Nat.reduceBEq, Int.reduceToNat, List.reduceReplicate]
    repeat with_reducible refine cj ?_ ?_
    all_goals try first | omega
    rw [← hQl1]
    change Exists _
    refine ⟨_, ?hm, j + 1, ?_, ?_, ?_, ?_, rfl, ?henv, ?hstore, ?hst⟩
    case henv =>
      repeat' (first | rfl | refine env_cons ?_ ?_ | refine st_cons ?_ ?_ ?_ ?_ | refine int_eq ?_ | refine bool_eq ?_ | refine rsl_eq ?_ | refine osl_eq ?_ | refine sl_eq ?_ ?_ ?_ | refine ptr_eq ?_ ?_ ?_ | refine agg_eq ?_ | refine es_cons ?_ ?_ | refine row_cons ?_ ?_)
      all_goals (first | (simp; done) | omega | (simp; omega))
    case hstore =>
      repeat' (first | rfl | refine env_cons ?_ ?_ | refine st_cons ?_ ?_ ?_ ?_ | refine int_eq ?_ | refine bool_eq ?_ | refine rsl_eq ?_ | refine osl_eq ?_ | refine sl_eq ?_ ?_ ?_ | refine ptr_eq ?_ ?_ ?_ | refine agg_eq ?_ | refine es_cons ?_ ?_ | refine row_cons ?_ ?_)
      all_goals (rw [hos]; simp only [openStep, hl1])
    case hst =>
      first | trivial | omega | (simp; done) | (simp; omega)
    case hm => omega
  · intro hb
    try simp only [hB, decide_eq_true_eq, decide_eq_false_iff_not] at hb
    refine AW.keep [3] [109, 111, 138, 157, 176] ?_
    try simp only [go_sem, reduceIte, reduceCtorEq, Nat.reduceAdd, Nat.reduceMul, Nat.reduceEqDiff, Nat.reduceLT, Nat.reduceLeDiff, Nat.reduceSub, Nat.reducePow, Nat.reduceBEq, Int.reduceToNat, List.reduceReplicate]
    refine AW.exit ?_
    rw [← hQl1]
    refine hK3 _ _ _ ?_; clear hK3
    refine AW.seq fun K12 hK12 => ?_
    -- region 10
    refine AW.regionK 100 (fun _ => none) [2] [109, 111, 138, 157, 176] ?_
    simp only [go_sem, reduceIte, reduceCtorEq, Nat.reduceAdd, Nat.reduceMul, Nat.reduceEqDiff, Nat.reduceLT, Nat.reduceLeDiff, Nat.reduceSub, Nat.reducePow, Nat.reduceBEq, Int.reduceToNat, List.reduceReplicate]
    repeat with_reducible refine cj ?_ ?_
    all_goals try first | omega
    refine hK12 _ _ _ ?_; clear hK12
    refine AW.ret ?_
    rw [← hQr]
    simp only [go_sem, reduceIte, reduceCtorEq, Nat.reduceAdd, Nat.reduceMul, Nat.reduceEqDiff, Nat.reduceLT, Nat.reduceLeDiff, Nat.reduceSub, Nat.reducePow, Nat.reduceBEq, Int.reduceToNat, List.reduceReplicate]
    refine ⟨[(111, 0, true), (109, 1, true)], ?_⟩
    simp only [go_sem, reduceIte, Nat.reduceEqDiff, ren_arcs, renC_leave, openAt_all (show n.E.length ≤ j by omega)]
    decide
end Go.Proofs.F
namespace Go.Proofs.F
open Go.AM Go
set_option maxRecDepth 100000
set_option maxHeartbeats 1000000
theorem reach_r (arcs : List Arc) (leave : List (List Int)) (N : Nat) (s : Int) (hw : WfR arcs leave N) (h0 : 0 ≤ s) (h1 : s < N) (r : List Int) (hr : reachP arcs leave s = some r) :
    Reads Try.prog 53 true [resR arcs leave, .int .i64 s] (.rsl 1 (ints r)) := by
  have hN := hw.small
  have hlen := hw.len
  have hbig := hw.big
  unfold resR
  unfold reachP at hr
  rw [hlen] at hr
  refine Reads.bodyF (rs := [.tmp 4]) Try.func53 rfl Try.ntmps53 rfl (by simp) ?_
  generalize hQr : retQ _ _ _ = Qr
  refine AW.seq fun K1 hK1 => ?_
  -- region 0
  refine AW.regionK 0 (fun _ => none) [0, 1] [] ?_
  simp only [go_sem, reduceIte, reduceCtorEq, Nat.reduceAdd, Nat.reduceMul, Nat.reduceEqDiff, Nat.reduceLT, Nat.reduceLeDiff, Nat.reduceSub, Nat.reducePow, Nat.reduceBEq, Int.reduceToNat, List.reduceReplicate, leaveR_len, ints_len, List.length_map, Int.toNat_natCast, hlen, List.length_replicate]
  repeat with_reducible refine cj ?_ ?_
  all_goals try first | omega
  refine hK1 _ _ _ ?_; clear hK1
  refine AW.seq fun K2 hK2 => ?_
  -- region 1
  refine AW.regionK 0 (fun _ => none) [0, 1, 5] [17] ?_
  simp only [go_sem, reduceIte, reduceCtorEq, Nat.reduceAdd, Nat.reduceMul, Nat.reduceEqDiff, Nat.reduceLT, Nat.reduceLeDiff, Nat.reduceSub, Nat.reducePow, Nat.reduceBEq, Int.reduceToNat, List.reduceReplicate, leaveR_len, ints_len, List.length_map, Int.toNat_natCast, hlen, List.length_replicate]
  repeat with_reducible refine cj ?_ ?_
  all_goals try first | omega
  refine hK2 _ _ _ ?_; clear hK2
  refine AW.seq fun K3 hK3 => ?_
  refine AW.seq fun K4 hK4 => ?_
  -- region 2
  refine AW.regionK 0 (fun _ => none) [0, 1, 5, 19, 20] [17] ?_
  simp only [go_sem, reduceIte, reduceCtorEq, Nat.reduceAdd, Nat.reduceMul, Nat.reduceEqDiff, Nat.reduceLT, Nat.reduceLeDiff, Nat.reduceSub, Nat.reducePow, Nat.reduceBEq, Int.reduceToNat, List.reduceReplicate, leaveR_len, ints_len, List.length_map, Int.toNat_natCast, hlen, List.length_replicate]
  repeat with_reducible refine cj ?_ ?_
  all_goals try first | omega
  refine hK4 _ _ _ ?_; clear hK4
  refine AW.block ?_
  -- loop 1
  refine AW.loopE (fun mm ee ss kk => ∃ (i g v : Nat), N - i = mm ∧ ee = [(0, .rptr [.rsl 2 (arcs.map arcV), .rsl 1 (leaveR leave)]), (1, .int .i64 s), (5, .sl ⟨17, g, none⟩ 0 N none), (19, .int .i64 N), (20, .int .i64 (i : Nat))] ∧ ss = [(17, some ⟨g, v, 1, ints (List.replicate i (-1) ++ List.replicate (N - i) 0)⟩)] ∧ (i ≤ N)) ?_ ?_
  · refine ⟨_, 0, ?_, ?_, rfl, ?henv, ?hstore, ?hst⟩
    case henv =>
      repeat' (first | rfl | refine env_cons ?_ ?_ | refine st_cons ?_ ?_ ?_ ?_ | refine int_eq ?_ | refine bool_eq ?_ | refine rsl_eq ?_ | refine osl_eq ?_ | refine sl_eq ?_ ?_ ?_ | refine ptr_eq ?_ ?_ ?_ | refine agg_eq ?_ | refine es_cons ?_ ?_ | refine row_cons ?_ ?_)
      all_goals (first | (simp; done) | omega | (simp; omega))
    case hstore =>
      repeat' (first | rfl | refine env_cons ?_ ?_ | refine st_cons ?_ ?_ ?_ ?_ | refine int_eq ?_ | refine bool_eq ?_ | refine rsl_eq ?_ | refine osl_eq ?_ | refine sl_eq ?_ ?_ ?_ | refine ptr_eq ?_ ?_ ?_ | refine agg_eq ?_ | refine es_cons ?_ ?_ | refine row_cons ?_ ?_)
      simp [ints]
    case hst =>
      first | trivial | omega | (simp; done) | (simp; omega)
  rintro mm ee ss kk ⟨i, g, v, rfl, rfl, rfl, hI⟩
  generalize hQl1 : thenQ _ _ = Ql1
  refine AW.seq fun K5 hK5 => ?_
  -- region 3
  refine AW.regionK 0 (fun _ => none) [0, 1, 5, 19, 20, 21] [17] ?_
  simp only [go_sem, reduceIte, reduceCtorEq, Nat.reduceAdd, Nat.reduceMul, Nat.reduceEqDiff, Nat.reduceLT, Nat.reduceLeDiff, Nat.reduceSub, Nat.reducePow, Nat.reduceBEq, Int.reduceToNat, List.reduceReplicate, leaveR_len, ints_len, List.length_map, Int.toNat_natCast, hlen, List.length_replicate]
  repeat with_reducible refine cj ?_ ?_
  all_goals try first | omega
  refine hK5 _ _ _ ?_; clear hK5
  refine AW.seq fun K6 hK6 => ?_
  -- cond 1
  refine AW.cond rfl (by simp only [go_sem, reduceIte, reduceCtorEq, Nat.reduceAdd, Nat.reduceMul, Nat.reduceEqDiff, Nat.reduceLT, Nat.reduceLeDiff, Nat.reduceSub, Nat.reducePow, Nat.reduceBEq, Int.reduceToNat, List.reduceReplicate]) ?_ ?_
  · intro hb
    try simp only [hB, decide_eq_true_eq, decide_eq_false_iff_not] at hb
    refine AW.skip ?_
    refine hK6 _ _ _ ?_; clear hK6
    refine AW.seq fun K7 hK7 => ?_
    refine AW.block ?_
    refine AW.seq fun K8 hK8 => ?_
    -- region 4
    refine AW.regionK 0 (fun _ => none) [0, 1, 5, 6, 19, 20] [17] ?_
    simp only [go_sem, reduceIte, reduceCtorEq, Nat.reduceAdd, Nat.reduceMul, Nat.reduceEqDiff, Nat.reduceLT, Nat.reduceLeDiff, Nat.reduceSub, Nat.reducePow, Nat.reduceBEq, Int.reduceToNat, List.reduceReplicate, leaveR_len, ints_len, List.length_map, Int.toNat_natCast, hlen, List.length_replicate]
    repeat with_reducible refine cj ?_ ?_
    all_goals try first | omega
    refine hK8 _ _ _ ?_; clear hK8
    have hl5 : (List.replicate i (-1 : Int) ++ List.replicate (N - i) 0).length = N := by simp; omega
    -- region 5
    refine AW.regionK 0 (fun _ => none) [0, 1, 5, 19, 20] [17] ?_
    simp only [go_sem, reduceIte, reduceCtorEq, Nat.reduceAdd, Nat.reduceMul, Nat.reduceEqDiff, Nat.reduceLT, Nat.reduceLeDiff, Nat.reduceSub, Nat.reducePow, Nat.reduceBEq, Int.reduceToNat, List.reduceReplicate, leaveR_len, ints_len, List.length_map, Int.toNat_natCast, hlen, List.length_replicate, ints_set, fillN i N (by omega), hl5]
    repeat with_reducible refine cj ?_ ?_
    all_goals try first | omega
    refine hK7 _ _ _ ?_; clear hK7
    -- region 6
    refine AW.regionK 0 (fun _ => none) [0, 1, 5, 19, 20] [17] ?_
    simp only [go_sem, reduceIte, reduceCtorEq, Nat.reduceAdd, Nat.reduceMul, Nat.reduceEqDiff, Nat.reduceLT, Nat.reduceLeDiff, Nat.reduceSub, Nat.reducePow, Nat.reduceBEq, Int.reduceToNat, List.reduceReplicate, leaveR_len, ints_len, List.length_map, Int.toNat_natCast, hlen, List.length_replicate]
    repeat with_reducible refine cj ?_ ?_
    all_goals try first | omega
    rw [← hQl1]
    change Exists _
    refine ⟨_, ?hm, i + 1, ?_, ?_, rfl, ?henv, ?hstore, ?hst⟩
    case henv =>
      repeat' (first | rfl | refine env_cons ?_ ?_ | refine st_cons ?_ ?_ ?_ ?_ | refine int_eq ?_ | refine bool_eq ?_ | refine rsl_eq ?_ | refine osl_eq ?_ | refine sl_eq ?_ ?_ ?_ | refine ptr_eq ?_ ?_ ?_ | refine agg_eq ?_ | refine es_cons ?_ ?_ | refine row_cons ?_ ?_)
      all_goals (first | (simp; done) | omega | (simp; omega))
    case hstore =>
      repeat' (first | rfl | refine env_cons ?_ ?_ | refine st_cons ?_ ?_ ?_ ?_ | refine int_eq ?_ | refine bool_eq ?_ | refine rsl_eq ?_ | refine osl_eq ?_ | refine sl_eq ?_ ?_ ?_ | refine ptr_eq ?_ ?_ ?_ | refine agg_eq ?_ | refine es_cons ?_ ?_ | refine row_cons ?_ ?_)
      all_goals (first | (simp; done) | omega | (simp; omega))
    case hst =>
      first | trivial | omega | (simp; done) | (simp; omega)
    case hm => omega
  · intro hb
    try simp only [hB, decide_eq_true_eq, decide_eq_false_iff_not] at hb
    refine AW.keep [0, 1, 5] [17] ?_
    try simp only [go_sem, reduceIte, reduceCtorEq, Nat.reduceAdd, Nat.reduceMul, Nat.reduceEqDiff, Nat.reduceLT, Nat.reduceLeDiff, Nat.reduceSub, Nat.reducePow, Nat.reduceBEq, Int.reduceToNat, List.reduceReplicate]
    refine AW.exit ?_
    rw [← hQl1]
    refine hK3 _ _ _ ?_; clear hK3
    refine AW.seq fun K9 hK9 => ?_
    have hiN : N = i := by omega
    subst hiN
    simp only [Nat.sub_self, List.replicate_zero, List.append_nil]
    have hgs := ints_getD (l := List.replicate N (-1 : Int)) (i := s.toNat) (by simp; omega)
    -- region 7
    refine AW.regionK 0 (fun _ => none) [0, 1, 5] [17] ?_
    simp only [go_sem, reduceIte, reduceCtorEq, Nat.reduceAdd, Nat.reduceMul, Nat.reduceEqDiff, Nat.reduceLT, Nat.reduceLeDiff, Nat.reduceSub, Nat.reducePow, Nat.reduceBEq, Int.reduceToNat, List.reduceReplicate, leaveR_len, ints_len, List.length_map, Int.toNat_natCast, hlen, List.length_replicate, ints_set, hgs]
    repeat with_reducible refine cj ?_ ?_
    all_goals try first | omega
    refine hK9 _ _ _ ?_; clear hK9
    refine AW.seq fun K10 hK10 => ?_
    -- region 8
    refine AW.regionK 0 (fun _ => none) [0, 1, 5, 7] [17, 32] ?_
    simp only [go_sem, reduceIte, reduceCtorEq, Nat.reduceAdd, Nat.reduceMul, Nat.reduceEqDiff, Nat.reduceLT, Nat.reduceLeDiff, Nat.reduceSub, Nat.reducePow, Nat.reduceBEq, Int.reduceToNat, List.reduceReplicate, leaveR_len, ints_len, List.length_map, Int.toNat_natCast, hlen, List.length_replicate]
    repeat with_reducible refine cj ?_ ?_
    all_goals try first | omega
    refine hK10 _ _ _ ?_; clear hK10
    refine AW.seq fun K11 hK11 => ?_
    -- region 9
    refine AW.regionK 0 (fun _ => none) [0, 5, 7] [17, 32] ?_
    simp only [go_sem, reduceIte, reduceCtorEq, Nat.reduceAdd, Nat.reduceMul, Nat.reduceEqDiff, Nat.reduceLT, Nat.reduceLeDiff, Nat.reduceSub, Nat.reducePow, Nat.reduceBEq, Int.reduceToNat, List.reduceReplicate, leaveR_len, ints_len, List.length_map, Int.toNat_natCast, hlen, List.length_replicate, List.take_zero]
    repeat with_reducible refine cj ?_ ?_
    all_goals try first | omega | (simp [scP, scalar]; done)
    refine hK11 _ _ _ ?_; clear hK11
    refine AW.seq fun K12 hK12 => ?_
    refine AW.seq fun K13 hK13 => ?_
    -- region 10
    refine AW.regionK 0 (fun _ => none) [0, 5, 7, 8] [17, 32] ?_
    simp only [go_sem, reduceIte, reduceCtorEq, Nat.reduceAdd, Nat.reduceMul, Nat.reduceEqDiff, Nat.reduceLT, Nat.reduceLeDiff, Nat.reduceSub, Nat.reducePow, Nat.reduceBEq, Int.reduceToNat, List.reduceReplicate, leaveR_len, ints_len, List.length_map, Int.toNat_natCast, hlen, List.length_replicate]
    repeat with_reducible refine cj ?_ ?_
    all_goals try first | omega
    refine hK13 _ _ _ ?_; clear hK13
    refine AW.block ?_
    -- loop 2
    refine AW.loopE (fun mm ee ss kk => ∃ (f i g5 v5 g7 v7 : Nat) (st : List Int × List Int), f + 1 = mm ∧ ee = [(0, .rptr [.rsl 2 (arcs.map arcV), .rsl 1 (leaveR leave)]), (5, .sl ⟨17, g5, none⟩ 0 N none), (7, .sl ⟨32, g7, none⟩ 0 st.2.length none), (8, .int .i64 (i : Nat))] ∧ ss = [(17, some ⟨g5, v5, 1, ints st.1⟩), (32, some ⟨g7, v7, 1, ints st.2⟩)] ∧ (WfQ N st ∧ bfs arcs leave f i st = some r)) ?_ ?_
    · refine ⟨_, N + 1, 0, ?_, ?_, ?_, ?_, by0 N s, rfl, ?henv, ?hstore, ?hst⟩
      case henv =>
        repeat' (first | rfl | refine env_cons ?_ ?_ | refine st_cons ?_ ?_ ?_ ?_ | refine int_eq ?_ | refine bool_eq ?_ | refine rsl_eq ?_ | refine osl_eq ?_ | refine sl_eq ?_ ?_ ?_ | refine ptr_eq ?_ ?_ ?_ | refine agg_eq ?_ | refine es_cons ?_ ?_ | refine row_cons ?_ ?_)
        all_goals (first | (simp; done) | omega | (simp; omega))
      case hstore =>
        repeat' (first | rfl | refine env_cons ?_ ?_ | refine st_cons ?_ ?_ ?_ ?_ | refine int_eq ?_ | refine bool_eq ?_ | refine rsl_eq ?_ | refine osl_eq ?_ | refine sl_eq ?_ ?_ ?_ | refine ptr_eq ?_ ?_ ?_ | refine agg_eq ?_ | refine es_cons ?_ ?_ | refine row_cons ?_ ?_)
        all_goals first | rfl | simp [by0, ints]
      case hst =>
        exact ⟨WfQ.start h0 h1, hr⟩
    rintro mm ee ss kk ⟨f, i, g5, v5, g7, v7, st, rfl, rfl, rfl, hI⟩
    generalize hQl2 : thenQ _ _ = Ql2
    obtain ⟨hq, hbf⟩ := hI
    have hql := hq.len
    have hqc := hq.cnt
    refine AW.seq fun K14 hK14 => ?_
    refine AW.seq fun K15 hK15 => ?_
    -- region 11
    refine AW.regionK 0 (fun _ => none) [0, 5, 7, 8, 43] [17, 32] ?_
    simp only [go_sem, reduceIte, reduceCtorEq, Nat.reduceAdd, Nat.reduceMul, Nat.reduceEqDiff, Nat.reduceLT, Nat.reduceLeDiff, Nat.reduceSub, Nat.reducePow, Nat.reduceBEq, Int.reduceToNat, List.reduceReplicate, leaveR_len, ints_len, List.length_map, Int.toNat_natCast, hlen, List.length_replicate]
    repeat with_reducible refine cj ?_ ?_
    all_goals try first | omega
    refine hK15 _ _ _ ?_; clear hK15
    -- cond 2
    refine AW.cond rfl (by simp only [go_sem, reduceIte, reduceCtorEq, Nat.reduceAdd, Nat.reduceMul, Nat.reduceEqDiff, Nat.reduceLT, Nat.reduceLeDiff, Nat.reduceSub, Nat.reducePow, Nat.reduceBEq, Int.reduceToNat, List.reduceReplicate]) ?_ ?_
    · intro hb
      try simp only [hB, decide_eq_true_eq, decide_eq_false_iff_not] at hb
      obtain ⟨f, rfl⟩ : ∃ f', f = f' + 1 := by
        cases f with
        | zero => simp [bfs, hb] at hbf; omega
        | succ f => exact ⟨f, rfl⟩
      have hi2 : i < st.2.length := by omega
      simp only [bfs, hi2, if_true] at hbf
      have hqv := hq.rng _ (mem_getD hi2 0)
      have hgq := ints_getD hi2
      generalize hv0 : st.2.getD i 0 = v0 at *
      have hgl := leaveR_get (l := leave) (i := v0.toNat) (by omega)
      have hkm : leave.getD v0.toNat [] ∈ leave := mem_getD (by omega) _
      have hki := hw.idx _ hkm
      have hkl := hw.long _ hkm
      generalize hks : leave.getD v0.toNat [] = ks at *
      refine AW.skip ?_
      refine hK14 _ _ _ ?_; clear hK14
      refine AW.seq fun K16 hK16 => ?_
      refine AW.block ?_
      refine AW.seq fun K17 hK17 => ?_
      -- region 13
      refine AW.regionD mixed 0 (fun _ => none) [0, 5, 7, 8, 55, 56, 57] [17, 32] ?_
      simp only [go_sem, reduceIte, reduceCtorEq, Nat.reduceAdd, Nat.reduceMul, Nat.reduceEqDiff, Nat.reduceLT, Nat.reduceLeDiff, Nat.reduceSub, Nat.reducePow, Nat.reduceBEq, Int.reduceToNat, List.reduceReplicate, leaveR_len, ints_len, List.length_map, Int.toNat_natCast, hlen, List.length_replicate, hgq, hgl]
      repeat with_reducible refine cj ?_ ?_
      all_goals try first | omega | exact chk (by kernel_rfl)
      refine hK17 _ _ _ ?_; clear hK17
      refine AW.block ?_
      -- loop 3
      refine AW.loopE (fun mm ee ss kk => ∃ (j g5 v5 g7 v7 : Nat) (su : List Int × List Int), ks.length - j = mm ∧ ee = [(0, .rptr [.rsl 2 (arcs.map arcV), .rsl 1 (leaveR leave)]), (5, .sl ⟨17, g5, none⟩ 0 N none), (7, .sl ⟨32, g7, none⟩ 0 su.2.length none), (8, .int .i64 (i : Nat)), (55, .rsl 1 (ints ks)), (56, .int .i64 ks.length), (57, .int .i64 (j : Nat))] ∧ ss = [(17, some ⟨g5, v5, 1, ints su.1⟩), (32, some ⟨g7, v7, 1, ints su.2⟩)] ∧ (WfQ N su ∧ su = scanQ arcs (ks.take j) st ∧ j ≤ ks.length)) ?_ ?_
      · refine ⟨_, 0, ?_, ?_, ?_, ?_, st, rfl, ?henv, ?hstore, ?hst⟩
        case henv =>
          repeat' (first | rfl | refine env_cons ?_ ?_ | refine st_cons ?_ ?_ ?_ ?_ | refine int_eq ?_ | refine bool_eq ?_ | refine rsl_eq ?_ | refine osl_eq ?_ | refine sl_eq ?_ ?_ ?_ | refine ptr_eq ?_ ?_ ?_ | refine agg_eq ?_ | refine es_cons ?_ ?_ | refine row_cons ?_ ?_)
          all_goals (first | (simp; done) | omega | (simp; omega))
        case hstore =>
          repeat' (first | rfl | refine env_cons ?_ ?_ | refine st_cons ?_ ?_ ?_ ?_ | refine int_eq ?_ | refine bool_eq ?_ | refine rsl_eq ?_ | refine osl_eq ?_ | refine sl_eq ?_ ?_ ?_ | refine ptr_eq ?_ ?_ ?_ | refine agg_eq ?_ | refine es_cons ?_ ?_ | refine row_cons ?_ ?_)
          all_goals (first | (simp; done) | omega | (simp; omega))
        case hst =>
          exact ⟨hq, rfl, Nat.zero_le _⟩
      rintro mm ee ss kk ⟨j, g5, v5, g7, v7, su, rfl, rfl, rfl, hI⟩
      generalize hQl3 : thenQ _ _ = Ql3
      obtain ⟨hqu, hsu, hj⟩ := hI
      have hul := hqu.len
      have huc := hqu.cnt
      refine AW.seq fun K18 hK18 => ?_
      -- region 14
      refine AW.regionK 0 (fun _ => none) [0, 5, 7, 8, 55, 56, 57, 58] [17, 32] ?_
      simp only [go_sem, reduceIte, reduceCtorEq, Nat.reduceAdd, Nat.reduceMul, Nat.reduceEqDiff, Nat.reduceLT, Nat.reduceLeDiff, Nat.reduceSub, Nat.reducePow, Nat.reduceBEq, Int.reduceToNat, List.reduceReplicate, leaveR_len, ints_len, List.length_map, Int.toNat_natCast, hlen, List.length_replicate]
      repeat with_reducible refine cj ?_ ?_
      all_goals try first | omega
      refine hK18 _ _ _ ?_; clear hK18
      refine AW.seq fun K19 hK19 => ?_
      -- cond 3
      refine AW.cond rfl (by simp only [go_sem, reduceIte, reduceCtorEq, Nat.reduceAdd, Nat.reduceMul, Nat.reduceEqDiff, Nat.reduceLT, Nat.reduceLeDiff, Nat.reduceSub, Nat.reducePow, Nat.reduceBEq, Int.reduceToNat, List.reduceReplicate]) ?_ ?_
      · intro hb
        try simp only [hB, decide_eq_true_eq, decide_eq_false_iff_not] at hb
        obtain ⟨kx, hkx⟩ := getI (l := ks) (j := j) (by omega)
        have hgk := ints_get hkx
        have hkr := hki _ (List.mem_of_getElem? hkx)
        have hga := arcs_get (l := arcs) (i := kx.toNat) (by omega)
        have har := hw.get hkr.1 hkr.2
        have hsc := scanQ_succ (arcs := arcs) (st := st) hkx
        rw [← hsu] at hsc
        have hwq := hqu.step hw hkr.1 hkr.2
        unfold innerStep at hsc hwq
        generalize hae : arcs.getD kx.toNat (0, 0) = ae at *
        have hgb := ints_getD (l := su.1) (i := ae.1.toNat) (by omega)
        refine AW.skip ?_
        refine hK19 _ _ _ ?_; clear hK19
        refine AW.seq fun K20 hK20 => ?_
        refine AW.block ?_
        refine AW.seq fun K21 hK21 => ?_
        -- region 15
        refine AW.regionK 0 (fun _ => none) [0, 5, 7, 8, 10, 55, 56, 57] [17, 32] ?_
        simp only [go_sem, reduceIte, reduceCtorEq, Nat.reduceAdd, Nat.reduceMul, Nat.reduceEqDiff, Nat.reduceLT, Nat.reduceLeDiff, Nat.reduceSub, Nat.reducePow, Nat.reduceBEq, Int.reduceToNat, List.reduceReplicate, leaveR_len, ints_len, List.length_map, Int.toNat_natCast, hlen, List.length_replicate, hgk]
        repeat with_reducible refine cj ?_ ?_
        all_goals try first | omega
        refine hK21 _ _ _ ?_; clear hK21
        refine AW.seq fun K22 hK22 => ?_
        -- region 16
        refine AW.regionK 0 (fun _ => none) [0, 5, 7, 8, 10, 11, 55, 56, 57] [11, 17, 32] ?_
        simp only [go_sem, reduceIte, reduceCtorEq, Nat.reduceAdd, Nat.reduceMul, Nat.reduceEqDiff, Nat.reduceLT, Nat.reduceLeDiff, Nat.reduceSub, Nat.reducePow, Nat.reduceBEq, Int.reduceToNat, List.reduceReplicate, leaveR_len, ints_len, List.length_map, Int.toNat_natCast, hlen, List.length_replicate, hga]
        repeat with_reducible refine cj ?_ ?_
        all_goals try first | omega
        refine hK22 _ _ _ ?_; clear hK22
        refine AW.seq fun K23 hK23 => ?_
        -- region 17
        refine AW.regionK 0 (fun _ => none) [0, 5, 7, 8, 10, 11, 55, 56, 57, 78] [11, 17, 32] ?_
        simp only [go_sem, reduceIte, reduceCtorEq, Nat.reduceAdd, Nat.reduceMul, Nat.reduceEqDiff, Nat.reduceLT, Nat.reduceLeDiff, Nat.reduceSub, Nat.reducePow, Nat.reduceBEq, Int.reduceToNat, List.reduceReplicate, leaveR_len, ints_len, List.length_map, Int.toNat_natCast, hlen, List.length_replicate, hgb]
        repeat with_reducible refine cj ?_ ?_
        all_goals try first | omega | (simp only [go_sem, reduceIte, reduceCtorEq, Nat.reduceAdd, Nat.reduceMul, Nat.reduceEqDiff, Nat.reduceLT, Nat.reduceLeDiff, Nat.reduceSub, Nat.reducePow, Nat.reduceBEq, Int.reduceToNat, List.reduceReplicate, leaveR_len, ints_len, List.length_map, Int.toNat_natCast, hlen, List.length_replicate, hgb]; done) | (simp_all [go_sem]; done)
        refine hK23 _ _ _ ?_; clear hK23
        -- cond 4
        refine AW.cond rfl (by simp only [go_sem, reduceIte, reduceCtorEq, Nat.reduceAdd, Nat.reduceMul, Nat.reduceEqDiff, Nat.reduceLT, Nat.reduceLeDiff, Nat.reduceSub, Nat.reducePow, Nat.reduceBEq, Int.reduceToNat, List.reduceReplicate]) ?_ ?_
        · intro hb
          try simp only [hB, decide_eq_true_eq, decide_eq_false_iff_not] at hb
          rw [if_pos hb] at hsc hwq
          refine AW.seq fun K24 hK24 => ?_
          -- region 18
          refine AW.regionK 0 (fun _ => none) [0, 5, 7, 8, 11, 55, 56, 57] [11, 17, 32] ?_
          simp only [go_sem, reduceIte, reduceCtorEq, Nat.reduceAdd, Nat.reduceMul, Nat.reduceEqDiff, Nat.reduceLT, Nat.reduceLeDiff, Nat.reduceSub, Nat.reducePow, Nat.reduceBEq, Int.reduceToNat, List.reduceReplicate, leaveR_len, ints_len, List.length_map, Int.toNat_natCast, hlen, List.length_replicate, ints_set]
          repeat with_reducible refine cj ?_ ?_
          all_goals try first | omega
          refine hK24 _ _ _ ?_; clear hK24
          -- region 19
          refine AW.regionK 0 (fun _ => none) [0, 5, 7, 8, 55, 56, 57] [17, 32] ?_
          simp only [go_sem, reduceIte, reduceCtorEq, Nat.reduceAdd, Nat.reduceMul, Nat.reduceEqDiff, Nat.reduceLT, Nat.reduceLeDiff, Nat.reduceSub, Nat.reducePow, Nat.reduceBEq, Int.reduceToNat, List.reduceReplicate, leaveR_len, ints_len, List.length_map, Int.toNat_natCast, hlen, List.length_replicate, List.take_length, ints_app]
          repeat with_reducible refine cj ?_ ?_
          all_goals try first | omega | (simp [scP, scalar]; done)
          refine hK20 _ _ _ ?_; clear hK20
          -- region 20
          refine AW.regionK 0 (fun _ => none) [0, 5, 7, 8, 55, 56, 57] [17, 32] ?_
          simp only [go_sem, reduceIte, reduceCtorEq, Nat.reduceAdd, Nat.reduceMul, Nat.reduceEqDiff, Nat.reduceLT, Nat.reduceLeDiff, Nat.reduceSub, Nat.reducePow, Nat.reduceBEq, Int.reduceToNat, List.reduceReplicate, leaveR_len, ints_len, List.length_map, Int.toNat_natCast, hlen, List.length_replicate]
          repeat with_reducible refine cj ?_ ?_
          all_goals try first | omega
          rw [← hQl3]
          change Exists _
          refine ⟨_, ?hm, j + 1, ?_, ?_, ?_, ?_, scanQ arcs (ks.take (j + 1)) st, rfl, ?henv, ?hstore, ?hst⟩
          case henv =>
            repeat' (first | rfl | refine env_cons ?_ ?_ | refine st_cons ?_ ?_ ?_ ?_ | refine int_eq ?_ | refine bool_eq ?_ | refine rsl_eq ?_ | refine osl_eq ?_ | refine sl_eq ?_ ?_ ?_ | refine ptr_eq ?_ ?_ ?_ | refine agg_eq ?_ | refine es_cons ?_ ?_ | refine row_cons ?_ ?_)
            all_goals (rw [hsc]; try simp)
          case hstore =>
            repeat' (first | rfl | refine env_cons ?_ ?_ | refine st_cons ?_ ?_ ?_ ?_ | refine int_eq ?_ | refine bool_eq ?_ | refine rsl_eq ?_ | refine osl_eq ?_ | refine sl_eq ?_ ?_ ?_ | refine ptr_eq ?_ ?_ ?_ | refine agg_eq ?_ | refine es_cons ?_ ?_ | refine row_cons ?_ ?_)
            all_goals (rw [hsc])
          case hst =>
            exact ⟨by rw [hsc]; exact hwq, rfl, by omega⟩
          case hm => omega
        · intro hb
          try simp only [hB, decide_eq_true_eq, decide_eq_false_iff_not] at hb
          rw [if_neg (by omega)] at hsc hwq
          refine AW.skip ?_
          refine hK20 _ _ _ ?_; clear hK20
          -- region 20
          refine AW.regionK 0 (fun _ => none) [0, 5, 7, 8, 55, 56, 57] [17, 32] ?_
          simp only [go_sem, reduceIte, reduceCtorEq, Nat.reduceAdd, Nat.reduceMul, Nat.reduceEqDiff, Nat.reduceLT, Nat.reduceLeDiff, Nat.reduceSub, Nat.reducePow, Nat.reduceBEq, Int.reduceToNat, List.reduceReplicate, leaveR_len, ints_len, List.length_map, Int.toNat_natCast, hlen, List.length_replicate]
          repeat with_reducible refine cj ?_ ?_
          all_goals try first | omega
          rw [← hQl3]
          change Exists _
          refine ⟨_, ?hm, j + 1, ?_, ?_, ?_, ?_, scanQ arcs (ks.take (j + 1)) st, rfl, ?henv, ?hstore, ?hst⟩
          case henv =>
            repeat' (first | rfl | refine env_cons ?_ ?_ | refine st_cons ?_ ?_ ?_ ?_ | refine int_eq ?_ | refine bool_eq ?_ | refine rsl_eq ?_ | refine osl_eq ?_ | refine sl_eq ?_ ?_ ?_ | refine ptr_eq ?_ ?_ ?_ | refine agg_eq ?_ | refine es_cons ?_ ?_ | refine row_cons ?_ ?_)
            all_goals (rw [hsc]; try simp)
          case hstore =>
            repeat' (first | rfl | refine env_cons ?_ ?_ | refine st_cons ?_ ?_ ?_ ?_ | refine int_eq ?_ | refine bool_eq ?_ | refine rsl_eq ?_ | refine osl_eq ?_ | refine sl_eq ?_ ?_ ?_ | refine ptr_eq ?_ ?_ ?_ | refine agg_eq ?_ | refine es_cons ?_ ?_ | refine row_cons ?_ ?_)
            all_goals (rw [hsc])
          case hst =>
            exact ⟨by rw [hsc]; exact hwq, rfl, by omega⟩
          case hm => omega
      · intro hb
        try simp only [hB, decide_eq_true_eq, decide_eq_false_iff_not] at hb
        rw [List.take_of_length_le (by omega)] at hsu
        subst hsu
        refine AW.keep [0, 5, 7, 8] [17, 32] ?_
        try simp only [go_sem, reduceIte, reduceCtorEq, Nat.reduceAdd, Nat.reduceMul, Nat.reduceEqDiff, Nat.reduceLT, Nat.reduceLeDiff, Nat.reduceSub, Nat.reducePow, Nat.reduceBEq, Int.reduceToNat, List.reduceReplicate]
        refine AW.exit ?_
        rw [← hQl3]
        refine hK16 _ _ _ ?_; clear hK16
        -- region 12
        refine AW.regionK 0 (fun _ => none) [0, 5, 7, 8] [17, 32] ?_
        simp only [go_sem, reduceIte, reduceCtorEq, Nat.reduceAdd, Nat.reduceMul, Nat.reduceEqDiff, Nat.reduceLT, Nat.reduceLeDiff, Nat.reduceSub, Nat.reducePow, Nat.reduceBEq, Int.reduceToNat, List.reduceReplicate, leaveR_len, ints_len, List.length_map, Int.toNat_natCast, hlen, List.length_replicate]
        repeat with_reducible refine cj ?_ ?_
        all_goals try first | omega
        rw [← hQl2]
        change Exists _
        refine ⟨_, ?hm, f, i + 1, ?_, ?_, ?_, ?_, scanQ arcs ks st, rfl, ?henv, ?hstore, ?hst⟩
        case henv =>
          repeat' (first | rfl | refine env_cons ?_ ?_ | refine st_cons ?_ ?_ ?_ ?_ | refine int_eq ?_ | refine bool_eq ?_ | refine rsl_eq ?_ | refine osl_eq ?_ | refine sl_eq ?_ ?_ ?_ | refine ptr_eq ?_ ?_ ?_ | refine agg_eq ?_ | refine es_cons ?_ ?_ | refine row_cons ?_ ?_)
          all_goals (first | (simp; done) | omega | (simp; omega))
        case hstore =>
          repeat' (first | rfl | refine env_cons ?_ ?_ | refine st_cons ?_ ?_ ?_ ?_ | refine int_eq ?_ | refine bool_eq ?_ | refine rsl_eq ?_ | refine osl_eq ?_ | refine sl_eq ?_ ?_ ?_ | refine ptr_eq ?_ ?_ ?_ | refine agg_eq ?_ | refine es_cons ?_ ?_ | refine row_cons ?_ ?_)
          all_goals (first | (simp; done) | omega | (simp; omega))
        case hst =>
          exact ⟨hqu, hbf⟩
        case hm => omega
    · intro hb
      try simp only [hB, decide_eq_true_eq, decide_eq_false_iff_not] at hb
      have hi2 : ¬ i < st.2.length := by omega
      have hfin : st.1 = r := by
        cases f <;> simp [bfs, hi2] at hbf <;> exact hbf
      refine AW.keep [5] [17] ?_
      try simp only [go_sem, reduceIte, reduceCtorEq, Nat.reduceAdd, Nat.reduceMul, Nat.reduceEqDiff, Nat.reduceLT, Nat.reduceLeDiff, Nat.reduceSub, Nat.reducePow, Nat.reduceBEq, Int.reduceToNat, List.reduceReplicate]
      refine AW.exit ?_
      rw [← hQl2]
      refine hK12 _ _ _ ?_; clear hK12
      refine AW.seq fun K25 hK25 => ?_
      -- region 21
      refine AW.regionK 0 (fun _ => none) [4] [17] ?_
      simp only [go_sem, reduceIte, reduceCtorEq, Nat.reduceAdd, Nat.reduceMul, Nat.reduceEqDiff, Nat.reduceLT, Nat.reduceLeDiff, Nat.reduceSub, Nat.reducePow, Nat.reduceBEq, Int.reduceToNat, List.reduceReplicate, leaveR_len, ints_len, List.length_map, Int.toNat_natCast, hlen, List.length_replicate]
      repeat with_reducible refine cj ?_ ?_
      all_goals try first | omega
      refine hK25 _ _ _ ?_; clear hK25
      refine AW.ret ?_
      rw [← hQr]
      simp only [go_sem, reduceIte, reduceCtorEq, Nat.reduceAdd, Nat.reduceMul, Nat.reduceEqDiff, Nat.reduceLT, Nat.reduceLeDiff, Nat.reduceSub, Nat.reducePow, Nat.reduceBEq, Int.reduceToNat, List.reduceReplicate, leaveR_len, ints_len, List.length_map, Int.toNat_natCast, hlen, List.length_replicate]
      subst hfin
      refine Wk.of_eq ?_
      rw [List.take_of_length_le (by omega)]
end Go.Proofs.F
/- Pushing along a path, over plain lists. -/
namespace Go.AM
def x1 (k : Int) : Int := if k % 2 = 0 then k + 1 else k - 1
theorem xor1_eq (k : Int) (h0 : 0 ≤ k) (h1 : k < 1000000) : bXor .i64 k 1 = x1 k := by
  show IntKind.i64.wrap ((BitVec.ofInt 64 k ^^^ BitVec.ofInt 64 1).toNat : Int) = x1 k
  obtain ⟨n, rfl⟩ := Int.eq_ofNat_of_zero_le h0
  have hn : n < 1000000 := by omega
  have e : (BitVec.ofInt 64 (n : Int) ^^^ BitVec.ofInt 64 1).toNat = n ^^^ 1 := by
    rw [BitVec.toNat_xor, BitVec.ofInt_natCast, BitVec.toNat_ofNat, Nat.mod_eq_of_lt (by omega)]
    rfl
  rw [e]
  have hx : n ^^^ 1 = if n % 2 = 0 then n + 1 else n - 1 := by
    have h2 : (n ^^^ 1) / 2 = n / 2 := by
      have := Nat.xor_div_two_pow (a := n) (b := 1) (n := 1)
      simpa using this
    have h3 : (n ^^^ 1) % 2 = (n % 2) ^^^ 1 := by
      have := Nat.xor_mod_two_pow (a := n) (b := 1) (n := 1)
      simpa using this
    have h4 := Nat.div_add_mod (n ^^^ 1) 2
    have h5 := Nat.div_add_mod n 2
    rcases Nat.mod_two_eq_zero_or_one n with h | h
    · rw [if_pos h, ← h4, h2, h3, h]; rw [h] at h5
      show 2 * (n / 2) + 1 = n + 1
      omega
    · rw [if_neg (by omega), ← h4, h2, h3, h]; rw [h] at h5
      show 2 * (n / 2) + 0 = n - 1
      omega
  rw [hx]
  unfold x1
  split
  · rw [if_pos (by omega)]
    simp [IntKind.wrap, IntKind.signed, IntKind.bits]; omega
  · rw [if_neg (by omega)]
    simp [IntKind.wrap, IntKind.signed, IntKind.bits]; omega
theorem x1_rng {k : Int} {n : Nat} (h0 : 0 ≤ k) (h1 : k < n) (he : n % 2 = 0) : 0 ≤ x1 k ∧ x1 k < n := by unfold x1; split <;> omega
theorem x1_ne (k : Int) : x1 k ≠ k := by unfold x1; split <;> omega
theorem x1_x1 (k : Int) : x1 (x1 k) = k := by unfold x1; split <;> split <;> omega

abbrev aTo (arcs : List Arc) (k : Int) : Int := (arcs.getD k.toNat (0, 0)).1
abbrev aLeft (arcs : List Arc) (k : Int) : Int := (arcs.getD k.toNat (0, 0)).2
def path (arcs : List Arc) (pr : List Int) : Nat → Int → Option (List Int)
  | 0, _ => none
  | f + 1, i => if 0 ≤ pr.getD i.toNat 0 then (path arcs pr f (aTo arcs (x1 (pr.getD i.toNat 0)))).map (pr.getD i.toNat 0 :: ·) else some []
def least (m l : Int) : Int := if m < 0 ∨ l < m then l else m
def mostOf (arcs : List Arc) (ks : List Int) : Int := ks.foldl (fun m k => least m (aLeft arcs k)) (-1)
def aSet (arcs : List Arc) (k x : Int) : List Arc := arcs.set k.toNat (aTo arcs k, x)
def push1 (m : Int) (arcs : List Arc) (k : Int) : List Arc := aSet (aSet arcs k (aLeft arcs k - m)) (x1 k) (aLeft (aSet arcs k (aLeft arcs k - m)) (x1 k) + m)
def pushA (arcs : List Arc) (m : Int) (ks : List Int) : List Arc := ks.foldl (push1 m) arcs
theorem arcs_set (l : List Arc) (i : Nat) (a b : Int) : (l.map arcV).set i [.int .i64 a, .int .i64 b] = (l.set i (a, b)).map arcV := by simp [arcV, List.map_set]
theorem aSet_len (arcs : List Arc) (k x : Int) : (aSet arcs k x).length = arcs.length := by simp [aSet]
theorem aTo_set (arcs : List Arc) (k x j : Int) : aTo (aSet arcs k x) j = aTo arcs j := by
  unfold aTo aSet
  by_cases h : k.toNat = j.toNat
  · rw [h]
    by_cases h2 : j.toNat < arcs.length
    · rw [getD_set_eq h2]; simp [aTo, h]
    · rw [List.set_eq_of_length_le (by omega)]
  · rw [getD_set_ne h]
theorem aLeft_set_eq {arcs : List Arc} {k : Int} (x : Int) (h : k.toNat < arcs.length) : aLeft (aSet arcs k x) k = x := by
  unfold aLeft aSet; rw [getD_set_eq h]
theorem aLeft_set_ne (arcs : List Arc) {k j : Int} (x : Int) (h : k.toNat ≠ j.toNat) : aLeft (aSet arcs k x) j = aLeft arcs j := by
  unfold aLeft aSet; rw [getD_set_ne h]
theorem aSet_get {arcs : List Arc} {k : Int} (x : Int) (h : k.toNat < arcs.length) : (aSet arcs k x).getD k.toNat (0, 0) = (aTo arcs k, x) := by
  unfold aSet; rw [getD_set_eq h]
def Bnd (arcs : List Arc) (B : Int) : Prop := ∀ k : Int, -B ≤ aLeft arcs k ∧ aLeft arcs k ≤ B
theorem push1_bnd {arcs : List Arc} {B m k : Int} (h : Bnd arcs B) (h0 : 0 ≤ m) (hk : 0 ≤ k) (hk1 : 0 ≤ x1 k) : Bnd (push1 m arcs k) (B + m) := by
  intro j
  have hne := x1_ne k
  have hB := h 0
  have key : ∀ (A : List Arc) (i x : Int), aLeft (aSet A i x) j = x ∨ aLeft (aSet A i x) j = aLeft A j := fun A i x => by
    by_cases hi : i.toNat = j.toNat
    · by_cases h2 : i.toNat < A.length
      · left; unfold aLeft; rw [← hi]; exact congrArg Prod.snd (aSet_get x h2)
      · right; unfold aSet; rw [List.set_eq_of_length_le (by omega)]
    · exact .inr (aLeft_set_ne A x hi)
  unfold push1
  have h1 := h j
  have h2 := h k
  have h3 : aLeft (aSet arcs k (aLeft arcs k - m)) (x1 k) = aLeft arcs (x1 k) := aLeft_set_ne _ _ (by omega)
  rw [h3]
  have h4 := h (x1 k)
  rcases key (aSet arcs k (aLeft arcs k - m)) (x1 k) (aLeft arcs (x1 k) + m) with e | e <;> rw [e]
  · omega
  · rcases key arcs k (aLeft arcs k - m) with e | e <;> rw [e] <;> omega
theorem push1_len (m : Int) (arcs : List Arc) (k : Int) : (push1 m arcs k).length = arcs.length := by unfold push1; rw [aSet_len, aSet_len]
theorem push1_to (m : Int) (arcs : List Arc) (k j : Int) : aTo (push1 m arcs k) j = aTo arcs j := by unfold push1; rw [aTo_set, aTo_set]
theorem pushA_snoc (arcs : List Arc) (m : Int) (ks : List Int) (k : Int) : pushA arcs m (ks ++ [k]) = push1 m (pushA arcs m ks) k := by simp [pushA]
theorem pushA_len (arcs : List Arc) (m : Int) (ks : List Int) : (pushA arcs m ks).length = arcs.length := by
  induction ks generalizing arcs with
  | nil => rfl
  | cons k ks ih => show (pushA (push1 m arcs k) m ks).length = _; rw [ih, push1_len]
theorem pushA_to (arcs : List Arc) (m : Int) (ks : List Int) (j : Int) : aTo (pushA arcs m ks) j = aTo arcs j := by
  induction ks generalizing arcs with
  | nil => rfl
  | cons k ks ih => show aTo (pushA (push1 m arcs k) m ks) j = _; rw [ih, push1_to]
theorem path_len {arcs : List Arc} {pr : List Int} : ∀ {f : Nat} {i : Int} {ks : List Int}, path arcs pr f i = some ks → ks.length < f
  | 0, i, ks, h => by cases h
  | f + 1, i, ks, h => by
    unfold path at h
    split at h
    · cases hp : path arcs pr f (aTo arcs (x1 (pr.getD i.toNat 0))) with
      | none => rw [hp] at h; cases h
      | some l => rw [hp] at h; simp at h; subst h; have := path_len hp; simp; omega
    · simp at h; subst h; simp
/-- What the nodes' arcs must satisfy. -/
structure WfB (arcs : List Arc) (pr : List Int) (N : Nat) : Prop where
  len : pr.length = N
  rng : ∀ k ∈ pr, k < arcs.length
theorem path_step {arcs : List Arc} {pr : List Int} {f : Nat} {i : Int} {ks : List Int} (h : path arcs pr f i = some ks) (hk : 0 ≤ pr.getD i.toNat 0) :
    ∃ f' l, f = f' + 1 ∧ ks = pr.getD i.toNat 0 :: l ∧ path arcs pr f' (aTo arcs (x1 (pr.getD i.toNat 0))) = some l := by
  cases f with
  | zero => cases h
  | succ f =>
    unfold path at h
    rw [if_pos hk] at h
    cases hp : path arcs pr f (aTo arcs (x1 (pr.getD i.toNat 0))) with
    | none => rw [hp] at h; cases h
    | some l => rw [hp] at h; simp at h; exact ⟨f, l, rfl, h.symm, hp⟩
theorem path_end {arcs : List Arc} {pr : List Int} {f : Nat} {i : Int} {ks : List Int} (h : path arcs pr f i = some ks) (hk : pr.getD i.toNat 0 < 0) : ks = [] := by
  cases f with
  | zero => cases h
  | succ f =>
    unfold path at h
    rw [if_neg (by omega)] at h
    simpa using h.symm
theorem mostOf_snoc (arcs : List Arc) (ks : List Int) (k : Int) : mostOf arcs (ks ++ [k]) = least (mostOf arcs ks) (aLeft arcs k) := by simp [mostOf]
theorem vw_arcs (s : Store) (d : Nat) (l : List Arc) : (l.map arcV).map (fun cs => cs.map (vw s d)) = l.map arcV := by simp [arcV, vw_int]
theorem vwc_leave (s : Store) (d : Nat) (l : List (List Int)) : (leaveV l).map (fun cs => cs.map (vwc s (d + 1))) = leaveR l := by simp [leaveV, leaveR, vwc_osl, ints, vw_int]
def fillP (leave : List (List Int)) (s t : Int) : Nat → List Arc → Int → Option (List Arc × Int × List Int)
  | 0, _, _ => none
  | f + 1, arcs, v => match reachP arcs leave s with
    | none => none
    | some pr => if pr.getD t.toNat 0 = -1 then some (arcs, v, pr) else match path arcs pr (leave.length + 1) t with
      | none => none
      | some ks => fillP leave s t f (pushA arcs (mostOf arcs ks) ks) (v + mostOf arcs ks)
/-- What holds along the way. -/
structure FillOk (leave : List (List Int)) (N : Nat) (s t : Int) (Inv : List Arc → Int → Prop) : Prop where
  wf : ∀ A v, Inv A v → WfR A leave N ∧ A.length % 2 = 0 ∧ Bnd A 1125899906842624 ∧ 0 ≤ v ∧ v ≤ 4611686018427387904
  by_ : ∀ A v pr, Inv A v → reachP A leave s = some pr → WfB A pr N
  step : ∀ A v pr ks, Inv A v → reachP A leave s = some pr → pr.getD t.toNat 0 ≠ -1 → path A pr (N + 1) t = some ks → 0 ≤ mostOf A ks ∧ mostOf A ks ≤ 1125899906842624 ∧ Inv (pushA A (mostOf A ks) ks) (v + mostOf A ks)
end Go.AM
namespace Go.AM
def flowOf (A : List Arc) (m : Nat) : List Int := (List.range m).map fun (i : Nat) => aLeft A (2 * (i : Int) + 1)
theorem flowOf_succ (A : List Arc) (m : Nat) : flowOf A (m + 1) = flowOf A m ++ [aLeft A (2 * (m : Int) + 1)] := by
  simp [flowOf, List.range_succ]
theorem flowOf_len (A : List Arc) (m : Nat) : (flowOf A m).length = m := by simp [flowOf]
theorem fillP_len {leave : List (List Int)} {s t : Int} : ∀ {f : Nat} {A : List Arc} {v : Int} {A' : List Arc} {v' : Int} {pr' : List Int}, fillP leave s t f A v = some (A', v', pr') → A'.length = A.length
  | 0, A, v, A', v', pr', h => by cases h
  | f + 1, A, v, A', v', pr', h => by
    unfold fillP at h
    split at h
    · cases h
    · split at h
      · simp at h; rw [h.1]
      · split at h
        · cases h
        · rw [fillP_len h, pushA_len]
end Go.AM
namespace Go.Proofs.F
open Go.AM Go
set_option maxRecDepth 100000
set_option maxHeartbeats 1000000
theorem push_u (arcs : List Arc) (leave : List (List Int)) (N : Nat) (pr : List Int) (t : Int) (ks : List Int) (g0 v0 g1 v1 : Nat) (hw : WfR arcs leave N) (he : arcs.length % 2 = 0) (hb : WfB arcs pr N) (h0 : 0 ≤ t) (h1 : t < N)
    (hp : path arcs pr (N + 1) t = some ks) (hBn : Bnd arcs 1125899906842624) (hm : 0 ≤ mostOf arcs ks) (hmb : mostOf arcs ks ≤ 1125899906842624) :
    Upd Try.prog 56 [(0, some ⟨g0, v0, 2, [[.osl 2 (arcs.map arcV), .sl ⟨1, g1, none⟩ 0 N none]]⟩), (1, some ⟨g1, v1, 1, leaveV leave⟩)] [.ptr ⟨0, g0, none⟩ 0 0, .rsl 1 (ints pr), .int .i64 t] (fun _ => .int .i64 (mostOf arcs ks))
      (fun k => [(0, some ⟨g0, k, 2, [[.osl 2 ((pushA arcs (mostOf arcs ks) ks).map arcV), .sl ⟨1, g1, none⟩ 0 N none]]⟩), (1, some ⟨g1, k, 1, leaveV leave⟩)]) := by
  have hN := hw.small
  have hlen := hw.len
  have hbig := hw.big
  have hpl := hb.len
  have hbk : ∀ i, i < N → pr.getD i 0 < arcs.length := fun i hi => hb.rng _ (mem_getD (by omega) 0)
  have hkl := path_len hp
  refine Upd.of_body (rs := [.tmp 6]) Try.func56 rfl Try.ntmps56 rfl (by simp) ?_
  intro k0 k hk0 hk1
  generalize hQr : retQ _ _ _ = Qr
  refine AW.seq fun K1 hK1 => ?_
  -- region 0
  refine AW.regionK 100 (fun _ => none) [0, 1, 2] [0, 1] ?_
  simp only [go_sem, reduceIte, reduceCtorEq, Nat.reduceAdd, Nat.reduceMul, Nat.reduceEqDiff, Nat.reduceLT, Nat.reduceLeDiff, Nat.reduceSub, Nat.reducePow, Nat.reduceBEq, Int.reduceToNat, List.reduceReplicate, hpl]
  repeat with_reducible refine cj ?_ ?_
  all_goals try first | omega
  refine hK1 _ _ _ ?_; clear hK1
  refine AW.seq fun K2 hK2 => ?_
  -- region 1
  refine AW.regionK 100 (fun _ => none) [0, 1, 2, 7] [0, 1] ?_
  simp only [go_sem, reduceIte, reduceCtorEq, Nat.reduceAdd, Nat.reduceMul, Nat.reduceEqDiff, Nat.reduceLT, Nat.reduceLeDiff, Nat.reduceSub, Nat.reducePow, Nat.reduceBEq, Int.reduceToNat, List.reduceReplicate, hpl]
  repeat with_reducible refine cj ?_ ?_
  all_goals try first | omega
  refine hK2 _ _ _ ?_; clear hK2
  refine AW.seq fun K3 hK3 => ?_
  refine AW.seq fun K4 hK4 => ?_
  -- region 2
  refine AW.regionK 100 (fun _ => none) [0, 1, 2, 7, 8] [0, 1] ?_
  simp only [go_sem, reduceIte, reduceCtorEq, Nat.reduceAdd, Nat.reduceMul, Nat.reduceEqDiff, Nat.reduceLT, Nat.reduceLeDiff, Nat.reduceSub, Nat.reducePow, Nat.reduceBEq, Int.reduceToNat, List.reduceReplicate, hpl]
  repeat with_reducible refine cj ?_ ?_
  all_goals try first | omega
  refine hK4 _ _ _ ?_; clear hK4
  refine AW.block ?_
  -- loop 1
  refine AW.loopE (fun mm ee ss kk => ∃ (f : Nat) (u : Int) (pre rest : List Int), f + 1 = mm ∧ ee = [(0, .ptr ⟨0, g0, none⟩ 0 0), (1, .rsl 1 (ints pr)), (2, .int .i64 t), (7, .int .i64 (mostOf arcs pre)), (8, .int .i64 u)] ∧ ss = [(0, some ⟨g0, v0, 2, [[.osl 2 (arcs.map arcV), .sl ⟨1, g1, none⟩ 0 N none]]⟩), (1, some ⟨g1, v1, 1, leaveV leave⟩)] ∧ (0 ≤ u ∧ u < N ∧ path arcs pr f u = some rest ∧ ks = pre ++ rest)) ?_ ?_
  · refine ⟨_, N + 1, t, [], ks, rfl, ?henv, ?hstore, ?hst⟩
    case henv =>
      repeat' (first | rfl | refine env_cons ?_ ?_ | refine st_cons ?_ ?_ ?_ ?_ | refine int_eq ?_ | refine bool_eq ?_ | refine rsl_eq ?_ | refine osl_eq ?_ | refine sl_eq ?_ ?_ ?_ | refine ptr_eq ?_ ?_ ?_ | refine agg_eq ?_ | refine es_cons ?_ ?_ | refine row_cons ?_ ?_)
      all_goals (first | (simp; done) | omega | (simp; omega))
    case hstore =>
      repeat' (first | rfl | refine env_cons ?_ ?_ | refine st_cons ?_ ?_ ?_ ?_ | refine int_eq ?_ | refine bool_eq ?_ | refine rsl_eq ?_ | refine osl_eq ?_ | refine sl_eq ?_ ?_ ?_ | refine ptr_eq ?_ ?_ ?_ | refine agg_eq ?_ | refine es_cons ?_ ?_ | refine row_cons ?_ ?_)
      all_goals (first | (simp; done) | omega | (simp; omega))
    case hst =>
      exact ⟨h0, h1, hp, rfl⟩
  rintro mm ee ss kk ⟨f, u, pre, rest, rfl, rfl, rfl, hI⟩
  generalize hQl1 : thenQ _ _ = Ql1
  obtain ⟨hu0, hu1, hpu, hks⟩ := hI
  have hgu := ints_getD (l := pr) (i := u.toNat) (by omega)
  have hku := hbk u.toNat (by omega)
  generalize hkk : pr.getD u.toNat 0 = kk at *
  refine AW.seq fun K5 hK5 => ?_
  refine AW.seq fun K6 hK6 => ?_
  -- region 3
  refine AW.regionK 100 (fun _ => none) [0, 1, 2, 7, 8, 16] [0, 1] ?_
  simp only [go_sem, reduceIte, reduceCtorEq, Nat.reduceAdd, Nat.reduceMul, Nat.reduceEqDiff, Nat.reduceLT, Nat.reduceLeDiff, Nat.reduceSub, Nat.reducePow, Nat.reduceBEq, Int.reduceToNat, List.reduceReplicate, hpl, hgu]
  repeat with_reducible refine cj ?_ ?_
  all_goals try first | omega
  refine hK6 _ _ _ ?_; clear hK6
  -- cond 1
  refine AW.cond rfl (by simp only [go_sem, reduceIte, reduceCtorEq, Nat.reduceAdd, Nat.reduceMul, Nat.reduceEqDiff, Nat.reduceLT, Nat.reduceLeDiff, Nat.reduceSub, Nat.reducePow, Nat.reduceBEq, Int.reduceToNat, List.reduceReplicate]) ?_ ?_
  · intro hb
    try simp only [hB, decide_eq_true_eq, decide_eq_false_iff_not] at hb
    obtain ⟨f', l, rfl, rfl, hpl2⟩ := path_step hpu (by omega)
    rw [hkk] at hpl2 hks
    have hga := arcs_get (l := arcs) (i := kk.toNat) (by omega)
    have hms := mostOf_snoc arcs pre kk
    have hx := xor1_eq kk (by omega) (by omega)
    have hxr := x1_rng (k := kk) (n := arcs.length) (by omega) (by omega) he
    have hgx := arcs_get (l := arcs) (i := (x1 kk).toNat) (by omega)
    have hat := hw.get (k := x1 kk) (by omega) (by omega)
    refine AW.skip ?_
    refine hK5 _ _ _ ?_; clear hK5
    refine AW.seq fun K7 hK7 => ?_
    refine AW.block ?_
    refine AW.seq fun K8 hK8 => ?_
    -- region 5
    refine AW.regionD mixed 100 (fun _ => none) [0, 1, 2, 7, 8, 9] [0, 1] ?_
    simp only [go_sem, reduceIte, reduceCtorEq, Nat.reduceAdd, Nat.reduceMul, Nat.reduceEqDiff, Nat.reduceLT, Nat.reduceLeDiff, Nat.reduceSub, Nat.reducePow, Nat.reduceBEq, Int.reduceToNat, List.reduceReplicate, hpl, hgu, hga]
    repeat with_reducible refine cj ?_ ?_
    all_goals try first | omega | exact chk (by kernel_rfl)
    refine hK8 _ _ _ ?_; clear hK8
    refine AW.seq fun K9 hK9 => ?_
    -- region 6
    refine AW.regionK 100 (fun _ => none) [0, 1, 2, 7, 8, 9, 46] [0, 1] ?_
    simp only [go_sem, reduceIte, reduceCtorEq, Nat.reduceAdd, Nat.reduceMul, Nat.reduceEqDiff, Nat.reduceLT, Nat.reduceLeDiff, Nat.reduceSub, Nat.reducePow, Nat.reduceBEq, Int.reduceToNat, List.reduceReplicate, hpl]
    repeat with_reducible refine cj ?_ ?_
    all_goals try first | omega | (simp only [go_sem, reduceIte, reduceCtorEq, Nat.reduceAdd, Nat.reduceMul, Nat.reduceEqDiff, Nat.reduceLT, Nat.reduceLeDiff, Nat.reduceSub, Nat.reducePow, Nat.reduceBEq, Int.reduceToNat, List.reduceReplicate, hpl]; done) | (simp_all [go_sem]; done)
    refine hK9 _ _ _ ?_; clear hK9
    -- cond 2
    refine AW.cond rfl (by simp only [go_sem, reduceIte, reduceCtorEq, Nat.reduceAdd, Nat.reduceMul, Nat.reduceEqDiff, Nat.reduceLT, Nat.reduceLeDiff, Nat.reduceSub, Nat.reducePow, Nat.reduceBEq, Int.reduceToNat, List.reduceReplicate]) ?_ ?_
    · intro hb
      try simp only [hB, decide_eq_true_eq, decide_eq_false_iff_not] at hb
      rw [least, if_pos hb] at hms
      -- region 7
      refine AW.regionK 100 (fun _ => none) [0, 1, 2, 7, 8] [0, 1] ?_
      simp only [go_sem, reduceIte, reduceCtorEq, Nat.reduceAdd, Nat.reduceMul, Nat.reduceEqDiff, Nat.reduceLT, Nat.reduceLeDiff, Nat.reduceSub, Nat.reducePow, Nat.reduceBEq, Int.reduceToNat, List.reduceReplicate, hpl]
      repeat with_reducible refine cj ?_ ?_
      all_goals try first | omega
      refine hK7 _ _ _ ?_; clear hK7
      -- region 4
      refine AW.regionD mixed 100 (fun _ => none) [0, 1, 2, 7, 8] [0, 1] ?_
      simp only [go_sem, reduceIte, reduceCtorEq, Nat.reduceAdd, Nat.reduceMul, Nat.reduceEqDiff, Nat.reduceLT, Nat.reduceLeDiff, Nat.reduceSub, Nat.reducePow, Nat.reduceBEq, Int.reduceToNat, List.reduceReplicate, hpl, hgu, hx, hgx]
      repeat with_reducible refine cj ?_ ?_
      all_goals try first | omega | exact chk (by kernel_rfl)
      rw [← hQl1]
      change Exists _
      refine ⟨_, ?hm, f', aTo arcs (x1 kk), pre ++ [kk], l, rfl, ?henv, ?hstore, ?hst⟩
      case henv =>
        repeat' (first | rfl | refine env_cons ?_ ?_ | refine st_cons ?_ ?_ ?_ ?_ | refine int_eq ?_ | refine bool_eq ?_ | refine rsl_eq ?_ | refine osl_eq ?_ | refine sl_eq ?_ ?_ ?_ | refine ptr_eq ?_ ?_ ?_ | refine agg_eq ?_ | refine es_cons ?_ ?_ | refine row_cons ?_ ?_)
        all_goals (rw [hms])
      case hstore =>
        repeat' (first | rfl | refine env_cons ?_ ?_ | refine st_cons ?_ ?_ ?_ ?_ | refine int_eq ?_ | refine bool_eq ?_ | refine rsl_eq ?_ | refine osl_eq ?_ | refine sl_eq ?_ ?_ ?_ | refine ptr_eq ?_ ?_ ?_ | refine agg_eq ?_ | refine es_cons ?_ ?_ | refine row_cons ?_ ?_)
        all_goals (first | (simp; done) | omega | (simp; omega))
      case hst =>
        exact ⟨hat.1, hat.2, hpl2, by rw [hks]; simp⟩
      case hm => omega
    · intro hb
      try simp only [hB, decide_eq_true_eq, decide_eq_false_iff_not] at hb
      rw [least, if_neg (by simp only [aLeft]; omega)] at hms
      refine AW.skip ?_
      refine hK7 _ _ _ ?_; clear hK7
      -- region 4
      refine AW.regionD mixed 100 (fun _ => none) [0, 1, 2, 7, 8] [0, 1] ?_
      simp only [go_sem, reduceIte, reduceCtorEq, Nat.reduceAdd, Nat.reduceMul, Nat.reduceEqDiff, Nat.reduceLT, Nat.reduceLeDiff, Nat.reduceSub, Nat.reducePow, Nat.reduceBEq, Int.reduceToNat, List.reduceReplicate, hpl, hgu, hx, hgx]
      repeat with_reducible refine cj ?_ ?_
      all_goals try first | omega | exact chk (by kernel_rfl)
      rw [← hQl1]
      change Exists _
      refine ⟨_, ?hm, f', aTo arcs (x1 kk), pre ++ [kk], l, rfl, ?henv, ?hstore, ?hst⟩
      case henv =>
        repeat' (first | rfl | refine env_cons ?_ ?_ | refine st_cons ?_ ?_ ?_ ?_ | refine int_eq ?_ | refine bool_eq ?_ | refine rsl_eq ?_ | refine osl_eq ?_ | refine sl_eq ?_ ?_ ?_ | refine ptr_eq ?_ ?_ ?_ | refine agg_eq ?_ | refine es_cons ?_ ?_ | refine row_cons ?_ ?_)
        all_goals (rw [hms])
      case hstore =>
        repeat' (first | rfl | refine env_cons ?_ ?_ | refine st_cons ?_ ?_ ?_ ?_ | refine int_eq ?_ | refine bool_eq ?_ | refine rsl_eq ?_ | refine osl_eq ?_ | refine sl_eq ?_ ?_ ?_ | refine ptr_eq ?_ ?_ ?_ | refine agg_eq ?_ | refine es_cons ?_ ?_ | refine row_cons ?_ ?_)
        all_goals (first | (simp; done) | omega | (simp; omega))
      case hst =>
        exact ⟨hat.1, hat.2, hpl2, by rw [hks]; simp⟩
      case hm => omega
  · intro hb
    try simp only [hB, decide_eq_true_eq, decide_eq_false_iff_not] at hb
    obtain rfl := path_end hpu (by omega)
    obtain rfl : ks = pre := by rw [hks]; simp
    refine AW.keep [0, 1, 2, 7] [0, 1] ?_
    try simp only [go_sem, reduceIte, reduceCtorEq, Nat.reduceAdd, Nat.reduceMul, Nat.reduceEqDiff, Nat.reduceLT, Nat.reduceLeDiff, Nat.reduceSub, Nat.reducePow, Nat.reduceBEq, Int.reduceToNat, List.reduceReplicate]
    refine AW.exit ?_
    rw [← hQl1]
    refine hK3 _ _ _ ?_; clear hK3
    refine AW.seq fun K10 hK10 => ?_
    refine AW.seq fun K11 hK11 => ?_
    -- region 8
    refine AW.regionK 100 (fun _ => none) [0, 1, 7, 10] [0, 1] ?_
    simp only [go_sem, reduceIte, reduceCtorEq, Nat.reduceAdd, Nat.reduceMul, Nat.reduceEqDiff, Nat.reduceLT, Nat.reduceLeDiff, Nat.reduceSub, Nat.reducePow, Nat.reduceBEq, Int.reduceToNat, List.reduceReplicate, hpl]
    repeat with_reducible refine cj ?_ ?_
    all_goals try first | omega
    refine hK11 _ _ _ ?_; clear hK11
    refine AW.block ?_
    -- loop 2
    refine AW.loopE (fun mm ee ss kk => ∃ (f : Nat) (u : Int) (pre rest : List Int) (v : Nat), f + 1 = mm ∧ ee = [(0, .ptr ⟨0, g0, none⟩ 0 0), (1, .rsl 1 (ints pr)), (7, .int .i64 (mostOf arcs ks)), (10, .int .i64 u)] ∧ ss = [(0, some ⟨g0, v, 2, [[.osl 2 ((pushA arcs (mostOf arcs ks) pre).map arcV), .sl ⟨1, g1, none⟩ 0 N none]]⟩), (1, some ⟨g1, v1, 1, leaveV leave⟩)] ∧ (0 ≤ u ∧ u < N ∧ path arcs pr f u = some rest ∧ ks = pre ++ rest ∧ Bnd (pushA arcs (mostOf arcs ks) pre) (1125899906842624 + 1125899906842624 * pre.length))) ?_ ?_
    · refine ⟨_, N + 1, t, [], ks, ?_, rfl, ?henv, ?hstore, ?hst⟩
      case henv =>
        repeat' (first | rfl | refine env_cons ?_ ?_ | refine st_cons ?_ ?_ ?_ ?_ | refine int_eq ?_ | refine bool_eq ?_ | refine rsl_eq ?_ | refine osl_eq ?_ | refine sl_eq ?_ ?_ ?_ | refine ptr_eq ?_ ?_ ?_ | refine agg_eq ?_ | refine es_cons ?_ ?_ | refine row_cons ?_ ?_)
        all_goals (first | (simp; done) | omega | (simp; omega))
      case hstore =>
        repeat' (first | rfl | refine env_cons ?_ ?_ | refine st_cons ?_ ?_ ?_ ?_ | refine int_eq ?_ | refine bool_eq ?_ | refine rsl_eq ?_ | refine osl_eq ?_ | refine sl_eq ?_ ?_ ?_ | refine ptr_eq ?_ ?_ ?_ | refine agg_eq ?_ | refine es_cons ?_ ?_ | refine row_cons ?_ ?_)
        all_goals (first | (simp; done) | omega | (simp; omega))
      case hst =>
        exact ⟨h0, h1, hp, rfl, by simpa [pushA] using hBn⟩
    rintro mm ee ss kk ⟨f, u, pre, rest, v, rfl, rfl, rfl, hI⟩
    generalize hQl2 : thenQ _ _ = Ql2
    obtain ⟨hu0, hu1, hpu, hks, hBp⟩ := hI
    have hgu := ints_getD (l := pr) (i := u.toNat) (by omega)
    have hku := hbk u.toNat (by omega)
    generalize hkk : pr.getD u.toNat 0 = kk at *
    have hpal := pushA_len arcs (mostOf arcs ks) pre
    have hkl2 : pre.length ≤ 512 := by have := congrArg List.length hks; simp at this; omega
    have hml : mostOf arcs ks ≤ 1125899906842624 := hmb
    generalize hA : pushA arcs (mostOf arcs ks) pre = A at *
    generalize hM : mostOf arcs ks = M at *
    refine AW.seq fun K12 hK12 => ?_
    refine AW.seq fun K13 hK13 => ?_
    -- region 9
    refine AW.regionK 100 (fun _ => none) [0, 1, 7, 10, 53] [0, 1] ?_
    simp only [go_sem, reduceIte, reduceCtorEq, Nat.reduceAdd, Nat.reduceMul, Nat.reduceEqDiff, Nat.reduceLT, Nat.reduceLeDiff, Nat.reduceSub, Nat.reducePow, Nat.reduceBEq, Int.reduceToNat, List.reduceReplicate, hpl, hgu]
    repeat with_reducible refine cj ?_ ?_
    all_goals try first | omega
    refine hK13 _ _ _ ?_; clear hK13
    -- cond 3
    refine AW.cond rfl (by simp only [go_sem, reduceIte, reduceCtorEq, Nat.reduceAdd, Nat.reduceMul, Nat.reduceEqDiff, Nat.reduceLT, Nat.reduceLeDiff, Nat.reduceSub, Nat.reducePow, Nat.reduceBEq, Int.reduceToNat, List.reduceReplicate]) ?_ ?_
    · intro hb
      try simp only [hB, decide_eq_true_eq, decide_eq_false_iff_not] at hb
      obtain ⟨f', l, rfl, rfl, hpl2⟩ := path_step hpu (by omega)
      rw [hkk] at hpl2 hks
      have hx := xor1_eq kk (by omega) (by omega)
      have hxr := x1_rng (k := kk) (n := arcs.length) (by omega) (by omega) he
      have hxn := x1_ne kk
      have hga := arcs_get (l := A) (i := kk.toNat) (by omega)
      have hgx := arcs_get (l := A) (i := (x1 kk).toNat) (by omega)
      have hb1 := hBp kk
      have hb2 := hBp (x1 kk)
      have hat := hw.get (k := x1 kk) (by omega) (by omega)
      have hps := pushA_snoc arcs M pre kk
      have hpt := pushA_to arcs M pre
      rw [hA] at hps hpt
      have hB2 := push1_bnd hBp hm (k := kk) (by omega) hxr.1
      have hgs : ∀ a b, ((A.map arcV).set kk.toNat [.int .i64 a, .int .i64 b]) = (A.set kk.toNat (a, b)).map arcV := arcs_set A _
      simp only [aLeft] at hb1 hb2
      refine AW.skip ?_
      refine hK12 _ _ _ ?_; clear hK12
      refine AW.seq fun K14 hK14 => ?_
      refine AW.block ?_
      refine AW.seq fun K15 hK15 => ?_
      -- region 11
      refine AW.regionD mixed 100 (fun _ => none) [0, 1, 7, 10] [0, 1] ?_
      simp only [go_sem, reduceIte, reduceCtorEq, Nat.reduceAdd, Nat.reduceMul, Nat.reduceEqDiff, Nat.reduceLT, Nat.reduceLeDiff, Nat.reduceSub, Nat.reducePow, Nat.reduceBEq, Int.reduceToNat, List.reduceReplicate, hpl, hgu, hga, arcs_set]
      repeat with_reducible refine cj ?_ ?_
      all_goals try first | omega | exact chk (by kernel_rfl)
      refine hK15 _ _ _ ?_; clear hK15
      have hg2 : ∀ y, (A.set kk.toNat y).getD (x1 kk).toNat (0, 0) = A.getD (x1 kk).toNat (0, 0) := fun y => Go.AM.getD_set_ne (by omega) _ _
      have hl2 : ∀ y, (A.set kk.toNat y).length = A.length := fun y => List.length_set
      have hg3 : ∀ y, ((A.set kk.toNat y).map arcV).getD (x1 kk).toNat [] = [.int .i64 (A.getD (x1 kk).toNat (0, 0)).1, .int .i64 (A.getD (x1 kk).toNat (0, 0)).2] := fun y => by rw [arcs_get (by rw [hl2]; omega), hg2]
      -- region 12
      refine AW.regionD mixed 100 (fun _ => none) [0, 1, 7, 10] [0, 1] ?_
      simp only [go_sem, reduceIte, reduceCtorEq, Nat.reduceAdd, Nat.reduceMul, Nat.reduceEqDiff, Nat.reduceLT, Nat.reduceLeDiff, Nat.reduceSub, Nat.reducePow, Nat.reduceBEq, Int.reduceToNat, List.reduceReplicate, hpl, hgu, hx, hg3, arcs_set, hl2]
      repeat with_reducible refine cj ?_ ?_
      all_goals try first | omega | exact chk (by kernel_rfl)
      refine hK14 _ _ _ ?_; clear hK14
      have hp2 : ((A.set kk.toNat ((A.getD kk.toNat (0, 0)).1, (A.getD kk.toNat (0, 0)).2 - M)).set (x1 kk).toNat ((A.getD (x1 kk).toNat (0, 0)).1, (A.getD (x1 kk).toNat (0, 0)).2 + M)) = push1 M A kk := by
        simp only [push1, aSet, aTo, aLeft, hg2]
      rw [hp2]
      have hp3 := push1_len M A kk
      have hp4 := push1_to M A kk
      have hgp := arcs_get (l := push1 M A kk) (i := (x1 kk).toNat) (by omega)
      have hp5 := (hp4 (x1 kk)).trans (hpt (x1 kk))
      simp only [aTo] at hp5
      rw [hp5] at hgp
      -- region 10
      refine AW.regionD mixed 100 (fun _ => none) [0, 1, 7, 10] [0, 1] ?_
      simp only [go_sem, reduceIte, reduceCtorEq, Nat.reduceAdd, Nat.reduceMul, Nat.reduceEqDiff, Nat.reduceLT, Nat.reduceLeDiff, Nat.reduceSub, Nat.reducePow, Nat.reduceBEq, Int.reduceToNat, List.reduceReplicate, hpl, hgu, hx, hgp]
      repeat with_reducible refine cj ?_ ?_
      all_goals try first | omega | exact chk (by kernel_rfl)
      rw [← hQl2]
      change Exists _
      refine ⟨_, ?hm, f', aTo arcs (x1 kk), pre ++ [kk], l, ?_, rfl, ?henv, ?hstore, ?hst⟩
      case henv =>
        repeat' (first | rfl | refine env_cons ?_ ?_ | refine st_cons ?_ ?_ ?_ ?_ | refine int_eq ?_ | refine bool_eq ?_ | refine rsl_eq ?_ | refine osl_eq ?_ | refine sl_eq ?_ ?_ ?_ | refine ptr_eq ?_ ?_ ?_ | refine agg_eq ?_ | refine es_cons ?_ ?_ | refine row_cons ?_ ?_)
        all_goals (first | (simp; done) | omega | (simp; omega))
      case hstore =>
        repeat' (first | rfl | refine env_cons ?_ ?_ | refine st_cons ?_ ?_ ?_ ?_ | refine int_eq ?_ | refine bool_eq ?_ | refine rsl_eq ?_ | refine osl_eq ?_ | refine sl_eq ?_ ?_ ?_ | refine ptr_eq ?_ ?_ ?_ | refine agg_eq ?_ | refine es_cons ?_ ?_ | refine row_cons ?_ ?_)
        all_goals (rw [hps])
      case hst =>
        exact ⟨hat.1, hat.2, hpl2, by rw [hks]; simp, by rw [hps]; intro j; have := hB2 j; simp only [List.length_append, List.length_singleton]; omega⟩
      case hm => omega
    · intro hb
      try simp only [hB, decide_eq_true_eq, decide_eq_false_iff_not] at hb
      obtain rfl := path_end hpu (by omega)
      obtain rfl : ks = pre := by rw [hks]; simp
      refine AW.keep [7] [0, 1] ?_
      try simp only [go_sem, reduceIte, reduceCtorEq, Nat.reduceAdd, Nat.reduceMul, Nat.reduceEqDiff, Nat.reduceLT, Nat.reduceLeDiff, Nat.reduceSub, Nat.reducePow, Nat.reduceBEq, Int.reduceToNat, List.reduceReplicate]
      refine AW.exit ?_
      rw [← hQl2]
      refine hK10 _ _ _ ?_; clear hK10
      refine AW.seq fun K16 hK16 => ?_
      -- region 13
      refine AW.regionK 100 (fun _ => none) [6] [0, 1] ?_
      simp only [go_sem, reduceIte, reduceCtorEq, Nat.reduceAdd, Nat.reduceMul, Nat.reduceEqDiff, Nat.reduceLT, Nat.reduceLeDiff, Nat.reduceSub, Nat.reducePow, Nat.reduceBEq, Int.reduceToNat, List.reduceReplicate, hpl]
      repeat with_reducible refine cj ?_ ?_
      all_goals try first | omega
      refine hK16 _ _ _ ?_; clear hK16
      refine AW.ret ?_
      rw [← hQr]
      simp only [go_sem, reduceIte, reduceCtorEq, Nat.reduceAdd, Nat.reduceMul, Nat.reduceEqDiff, Nat.reduceLT, Nat.reduceLeDiff, Nat.reduceSub, Nat.reducePow, Nat.reduceBEq, Int.reduceToNat, List.reduceReplicate, hpl]
      refine ⟨[(0, 0, false), (1, 1, false)], ?_⟩
      simp only [go_sem, reduceIte, Nat.reduceEqDiff, ren_arcs, renC_leave]
      rw [hA]
      exact ⟨rfl, by decide⟩
end Go.Proofs.F
namespace Go.Proofs.F
open Go.AM Go
set_option maxRecDepth 100000
set_option maxHeartbeats 1000000
theorem fill_u (arcs : List Arc) (leave : List (List Int)) (N : Nat) (s t : Int) (g0 v0 g1 v1 F : Nat) (hs0 : 0 ≤ s) (hs1 : s < N) (h0 : 0 ≤ t) (h1 : t < N) (Inv : List Arc → Int → Prop) (hok : FillOk leave N s t Inv) (hI : Inv arcs 0)
    (A' : List Arc) (v' : Int) (pr' : List Int) (hf : fillP leave s t F arcs 0 = some (A', v', pr')) :
    Upd Try.prog 40 [(0, some ⟨g0, v0, 2, [[.osl 2 (arcs.map arcV), .sl ⟨1, g1, none⟩ 0 N none]]⟩), (1, some ⟨g1, v1, 1, leaveV leave⟩)] [.ptr ⟨0, g0, none⟩ 0 0, .int .i64 s, .int .i64 t] (fun _ => .tup [.int .i64 v', .rsl 1 (ints pr')])
      (fun k => [(0, some ⟨g0, k, 2, [[.osl 2 (A'.map arcV), .sl ⟨1, g1, none⟩ 0 N none]]⟩), (1, some ⟨g1, k, 1, leaveV leave⟩)]) := by
  have hlen := (hok.wf _ _ hI).1.len
  have hlt : (leaveV leave).take N = leaveV leave := List.take_of_length_le (by rw [leaveV_len]; omega)
  refine Upd.of_body (rs := [.tmp 6, .tmp 7]) Try.func40 rfl Try.ntmps40 rfl (by simp) ?_
  intro k0 k hk0 hk1
  generalize hQr : retQ _ _ _ = Qr
  refine AW.seq fun K1 hK1 => ?_
  -- region 0
  refine AW.regionK 100 (fun _ => none) [0, 1, 2] [0, 1] ?_
  simp only [go_sem, reduceIte, reduceCtorEq, Nat.reduceAdd, Nat.reduceMul, Nat.reduceEqDiff, Nat.reduceLT, Nat.reduceLeDiff, Nat.reduceSub, Nat.reducePow, Nat.reduceBEq, Int.reduceToNat, List.reduceReplicate, vw_arcs, vwc_leave, hlt]
  repeat with_reducible refine cj ?_ ?_
  all_goals try first | omega
  refine hK1 _ _ _ ?_; clear hK1
  refine AW.seq fun K2 hK2 => ?_
  -- region 1
  refine AW.regionK 100 (fun _ => none) [0, 1, 2, 8] [0, 1] ?_
  simp only [go_sem, reduceIte, reduceCtorEq, Nat.reduceAdd, Nat.reduceMul, Nat.reduceEqDiff, Nat.reduceLT, Nat.reduceLeDiff, Nat.reduceSub, Nat.reducePow, Nat.reduceBEq, Int.reduceToNat, List.reduceReplicate, vw_arcs, vwc_leave, hlt]
  repeat with_reducible refine cj ?_ ?_
  all_goals try first | omega
  refine hK2 _ _ _ ?_; clear hK2
  refine AW.block ?_
  -- loop 1
  refine AW.loopE (fun mm ee ss kk => ∃ (f : Nat) (A : List Arc) (v : Int) (w0 w1 : Nat), f + 1 = mm ∧ ee = [(0, .ptr ⟨0, g0, none⟩ 0 0), (1, .int .i64 s), (2, .int .i64 t), (8, .int .i64 v)] ∧ ss = [(0, some ⟨g0, w0, 2, [[.osl 2 (A.map arcV), .sl ⟨1, g1, none⟩ 0 N none]]⟩), (1, some ⟨g1, w1, 1, leaveV leave⟩)] ∧ (Inv A v ∧ fillP leave s t f A v = some (A', v', pr'))) ?_ ?_
  · refine ⟨_, F, arcs, 0, ?_, ?_, rfl, ?henv, ?hstore, ?hst⟩
    case henv =>
      repeat' (first | rfl | refine env_cons ?_ ?_ | refine st_cons ?_ ?_ ?_ ?_ | refine int_eq ?_ | refine bool_eq ?_ | refine rsl_eq ?_ | refine osl_eq ?_ | refine sl_eq ?_ ?_ ?_ | refine ptr_eq ?_ ?_ ?_ | refine agg_eq ?_ | refine es_cons ?_ ?_ | refine row_cons ?_ ?_)
      all_goals (first | (simp; done) | omega | (simp; omega))
    case hstore =>
      repeat' (first | rfl | refine env_cons ?_ ?_ | refine st_cons ?_ ?_ ?_ ?_ | refine int_eq ?_ | refine bool_eq ?_ | refine rsl_eq ?_ | refine osl_eq ?_ | refine sl_eq ?_ ?_ ?_ | refine ptr_eq ?_ ?_ ?_ | refine agg_eq ?_ | refine es_cons ?_ ?_ | refine row_cons ?_ ?_)
      all_goals (first | (simp; done) | omega | (simp; omega))
    case hst =>
      exact ⟨hI, hf⟩
  rintro mm ee ss kk ⟨f, A, v, w0, w1, rfl, rfl, rfl, hI⟩
  generalize hQl1 : thenQ _ _ = Ql1
  obtain ⟨hIA, hfA⟩ := hI
  obtain ⟨hw, he, hB, hv0, hv1⟩ := hok.wf _ _ hIA
  obtain ⟨f, rfl⟩ : ∃ f', f = f' + 1 := by
    cases f with
    | zero => simp [fillP] at hfA
    | succ f => exact ⟨f, rfl⟩
  unfold fillP at hfA
  rw [hlen] at hfA
  cases hpr : reachP A leave s with
  | none => rw [hpr] at hfA; cases hfA
  | some pr =>
  rw [hpr] at hfA
  simp only at hfA
  have hwb := hok.by_ _ _ _ hIA hpr
  have hpl := hwb.len
  have hgt := ints_getD (l := pr) (i := t.toNat) (by omega)
  refine AW.block ?_
  refine AW.seq fun K3 hK3 => ?_
  -- region 2
  refine AW.regionK 100 (fun i => if i = 2 then some (.reads true (.rsl 1 (ints pr))) else none) [0, 1, 2, 8, 9] [0, 1] ?_
  simp only [go_sem, reduceIte, reduceCtorEq, Nat.reduceAdd, Nat.reduceMul, Nat.reduceEqDiff, Nat.reduceLT, Nat.reduceLeDiff, Nat.reduceSub, Nat.reducePow, Nat.reduceBEq, Int.reduceToNat, List.reduceReplicate, vw_arcs, vwc_leave, hlt]
  repeat with_reducible refine cj ?_ ?_
  all_goals try first | (exact reach_r A leave N s hw hs0 hs1 pr hpr) | omega | exact ent (by kernel_rfl)
  refine hK3 _ _ _ ?_; clear hK3
  refine AW.seq fun K4 hK4 => ?_
  refine AW.seq fun K5 hK5 => ?_
  -- region 3
  refine AW.regionK 100 (fun _ => none) [0, 1, 2, 8, 9, 17] [0, 1] ?_
  simp only [go_sem, reduceIte, reduceCtorEq, Nat.reduceAdd, Nat.reduceMul, Nat.reduceEqDiff, Nat.reduceLT, Nat.reduceLeDiff, Nat.reduceSub, Nat.reducePow, Nat.reduceBEq, Int.reduceToNat, List.reduceReplicate, vw_arcs, vwc_leave, hlt, hgt]
  repeat with_reducible refine cj ?_ ?_
  all_goals try first | omega
  refine hK5 _ _ _ ?_; clear hK5
  -- cond 1
  refine AW.cond rfl (by simp only [go_sem, reduceIte, reduceCtorEq, Nat.reduceAdd, Nat.reduceMul, Nat.reduceEqDiff, Nat.reduceLT, Nat.reduceLeDiff, Nat.reduceSub, Nat.reducePow, Nat.reduceBEq, Int.reduceToNat, List.reduceReplicate]) ?_ ?_
  · intro hb
    try simp only [hB, decide_eq_true_eq, decide_eq_false_iff_not] at hb
    rw [if_pos hb] at hfA
    simp only [Option.some.injEq, Prod.mk.injEq] at hfA
    obtain ⟨rfl, rfl, rfl⟩ := hfA
    refine AW.seq fun K6 hK6 => ?_
    -- region 4
    refine AW.regionK 100 (fun _ => none) [6, 7] [0, 1] ?_
    simp only [go_sem, reduceIte, reduceCtorEq, Nat.reduceAdd, Nat.reduceMul, Nat.reduceEqDiff, Nat.reduceLT, Nat.reduceLeDiff, Nat.reduceSub, Nat.reducePow, Nat.reduceBEq, Int.reduceToNat, List.reduceReplicate, vw_arcs, vwc_leave, hlt]
    repeat with_reducible refine cj ?_ ?_
    all_goals try first | omega
    refine hK6 _ _ _ ?_; clear hK6
    refine AW.ret ?_
    rw [← hQl1]
    rw [← hQr]
    simp only [go_sem, reduceIte, reduceCtorEq, Nat.reduceAdd, Nat.reduceMul, Nat.reduceEqDiff, Nat.reduceLT, Nat.reduceLeDiff, Nat.reduceSub, Nat.reducePow, Nat.reduceBEq, Int.reduceToNat, List.reduceReplicate, vw_arcs, vwc_leave, hlt]
    refine ⟨[(0, 0, false), (1, 1, false)], ?_⟩
    simp only [go_sem, reduceIte, Nat.reduceEqDiff, ren_arcs, renC_leave]
    decide
  · intro hb
    try simp only [hB, decide_eq_true_eq, decide_eq_false_iff_not] at hb
    rw [if_neg hb] at hfA
    cases hp : path A pr (N + 1) t with
    | none => rw [hp] at hfA; cases hfA
    | some ks =>
    rw [hp] at hfA
    simp only at hfA
    obtain ⟨hm0, hm1, hI2⟩ := hok.step _ _ _ _ hIA hpr hb hp
    refine AW.skip ?_
    refine hK4 _ _ _ ?_; clear hK4
    -- region 5
    refine AW.regionK 100 (fun i => if i = 4 then some (.upd [0, 1] (fun k => [(0, some ⟨g0, k, 2, [[.osl 2 ((pushA A (mostOf A ks) ks).map arcV), .sl ⟨1, g1, none⟩ 0 N none]]⟩), (1, some ⟨g1, k, 1, leaveV leave⟩)]) (fun _ => .int .i64 (mostOf A ks))) else none) [0, 1, 2, 8] [0, 1] ?_
    simp only [go_sem, reduceIte, reduceCtorEq, Nat.reduceAdd, Nat.reduceMul, Nat.reduceEqDiff, Nat.reduceLT, Nat.reduceLeDiff, Nat.reduceSub, Nat.reducePow, Nat.reduceBEq, Int.reduceToNat, List.reduceReplicate, vw_arcs, vwc_leave, hlt, ren_arcs, renC_leave]
    repeat with_reducible refine cj ?_ ?_
    all_goals try first | (exact push_u A leave N pr t ks g0 _ g1 _ hw he hwb h0 h1 hp hB hm0 hm1) | omega | exact ent (by kernel_rfl)
    rw [← hQl1]
    change Exists _
    refine ⟨_, ?hm, f, pushA A (mostOf A ks) ks, v + mostOf A ks, ?_, ?_, rfl, ?henv, ?hstore, ?hst⟩
    case henv =>
      repeat' (first | rfl | refine env_cons ?_ ?_ | refine st_cons ?_ ?_ ?_ ?_ | refine int_eq ?_ | refine bool_eq ?_ | refine rsl_eq ?_ | refine osl_eq ?_ | refine sl_eq ?_ ?_ ?_ | refine ptr_eq ?_ ?_ ?_ | refine agg_eq ?_ | refine es_cons ?_ ?_ | refine row_cons ?_ ?_)
      all_goals (first | (simp; done) | omega | (simp; omega))
    case hstore =>
      repeat' (first | rfl | refine env_cons ?_ ?_ | refine st_cons ?_ ?_ ?_ ?_ | refine int_eq ?_ | refine bool_eq ?_ | refine rsl_eq ?_ | refine osl_eq ?_ | refine sl_eq ?_ ?_ ?_ | refine ptr_eq ?_ ?_ ?_ | refine agg_eq ?_ | refine es_cons ?_ ?_ | refine row_cons ?_ ?_)
      all_goals (first | (simp; done) | omega | (simp; omega))
    case hst =>
      exact ⟨hI2, hfA⟩
    case hm => omega
end Go.Proofs.F
namespace Go.Proofs.F
open Go.AM Go
set_option maxRecDepth 100000
set_option maxHeartbeats 1000000
theorem max_err (n : Net) (s t : Int) (hlen : n.E.length ≤ 9223372036854775807) (hc : checkC n s t ≠ 0) : Reads Try.prog 12 false [netV n, .int .i64 s, .int .i64 t] (.tup [.int .i64 0, .rsl 1 [], .int .i64 (checkC n s t)]) := by
  have hck := check_r n s t hlen
  unfold netV at *
  refine Reads.body (rs := [.tmp 6, .tmp 7, .tmp 8]) Try.func12 rfl Try.ntmps12 rfl (by simp) ?_
  generalize hQr : retQ _ _ _ = Qr
  refine AW.seq fun K1 hK1 => ?_
  -- region 0
  refine AW.regionK 0 (fun _ => none) [1, 2, 3, 7] [3] ?_
  simp only [go_sem, reduceIte, reduceCtorEq, Nat.reduceAdd, Nat.reduceMul, Nat.reduceEqDiff, Nat.reduceLT, Nat.reduceLeDiff, Nat.reduceSub, Nat.reducePow, Nat.reduceBEq, Int.reduceToNat, List.reduceReplicate]
  repeat with_reducible refine cj ?_ ?_
  all_goals try first | omega
  refine hK1 _ _ _ ?_; clear hK1
  refine AW.seq fun K2 hK2 => ?_
  refine AW.seq fun K3 hK3 => ?_
  -- region 1
  refine AW.regionK 0 (fun i => if i = 3 then some (.reads false (.int .i64 (checkC n s t))) else none) [1, 2, 3, 7, 9] [3] ?_
  simp only [go_sem, reduceIte, reduceCtorEq, Nat.reduceAdd, Nat.reduceMul, Nat.reduceEqDiff, Nat.reduceLT, Nat.reduceLeDiff, Nat.reduceSub, Nat.reducePow, Nat.reduceBEq, Int.reduceToNat, List.reduceReplicate]
  repeat with_reducible refine cj ?_ ?_
  all_goals try first | omega | exact ent (by kernel_rfl)
  refine hK3 _ _ _ ?_; clear hK3
  refine AW.seq fun K4 hK4 => ?_
  -- region 2
  refine AW.regionK 0 (fun _ => none) [1, 2, 3, 7, 9, 17] [3] ?_
  simp only [go_sem, reduceIte, reduceCtorEq, Nat.reduceAdd, Nat.reduceMul, Nat.reduceEqDiff, Nat.reduceLT, Nat.reduceLeDiff, Nat.reduceSub, Nat.reducePow, Nat.reduceBEq, Int.reduceToNat, List.reduceReplicate]
  repeat with_reducible refine cj ?_ ?_
  all_goals try first | omega
  refine hK4 _ _ _ ?_; clear hK4
  -- cond 1
  refine AW.cond rfl (by simp only [go_sem, reduceIte, reduceCtorEq, Nat.reduceAdd, Nat.reduceMul, Nat.reduceEqDiff, Nat.reduceLT, Nat.reduceLeDiff, Nat.reduceSub, Nat.reducePow, Nat.reduceBEq, Int.reduceToNat, List.reduceReplicate]) ?_ ?_
  · intro hb
    try simp only [hB, decide_eq_true_eq, decide_eq_false_iff_not] at hb
    refine AW.seq fun K5 hK5 => ?_
    -- region 3
    refine AW.regionK 0 (fun _ => none) [6, 7, 8] [] ?_
    simp only [go_sem, reduceIte, reduceCtorEq, Nat.reduceAdd, Nat.reduceMul, Nat.reduceEqDiff, Nat.reduceLT, Nat.reduceLeDiff, Nat.reduceSub, Nat.reducePow, Nat.reduceBEq, Int.reduceToNat, List.reduceReplicate]
    repeat with_reducible refine cj ?_ ?_
    all_goals try first | omega
    refine hK5 _ _ _ ?_; clear hK5
    refine AW.ret ?_
    rw [← hQr]
    simp only [go_sem, reduceIte, reduceCtorEq, Nat.reduceAdd, Nat.reduceMul, Nat.reduceEqDiff, Nat.reduceLT, Nat.reduceLeDiff, Nat.reduceSub, Nat.reducePow, Nat.reduceBEq, Int.reduceToNat, List.reduceReplicate]
    exact Wk.tup3 (Wk.refl _) (Wk.nil 1) (Wk.refl _)
  · intro hb
    try simp only [hB, decide_eq_true_eq, decide_eq_false_iff_not] at hb
    exfalso; simp at hb; omega
theorem max_r (n : Net) (s t : Int) (hv : validB n = true) (hst : endsB n s t = true) (Inv : List Arc → Int → Prop) (hok : FillOk (openP n).2 n.N.toNat s t Inv) (hI : Inv (openP n).1 0) (F : Nat)
    (A' : List Arc) (v' : Int) (pr' : List Int) (hf : fillP (openP n).2 s t F (openP n).1 0 = some (A', v', pr')) (hA : A'.length = 2 * n.E.length) :
    Reads Try.prog 12 false [netV n, .int .i64 s, .int .i64 t] (.tup [.int .i64 v', .rsl 1 (ints (flowOf A' n.E.length)), .int .i64 0]) := by
  obtain ⟨hN1, hN2, hE⟩ := valid_size hv
  have hck := check_r n s t (by omega)
  have hc0 : checkC n s t = 0 := by simp [checkC, hv, hst]
  have hends : 0 ≤ s ∧ s < n.N ∧ 0 ≤ t ∧ t < n.N := by simp [endsB] at hst; omega
  rw [hc0] at hck
  have hop := open_u n hv
  unfold netV at *
  refine Reads.body (rs := [.tmp 6, .tmp 7, .tmp 8]) Try.func12 rfl Try.ntmps12 rfl (by simp) ?_
  generalize hQr : retQ _ _ _ = Qr
  refine AW.seq fun K1 hK1 => ?_
  -- region 0
  refine AW.regionK 0 (fun _ => none) [1, 2, 3, 7] [3] ?_
  simp only [go_sem, reduceIte, reduceCtorEq, Nat.reduceAdd, Nat.reduceMul, Nat.reduceEqDiff, Nat.reduceLT, Nat.reduceLeDiff, Nat.reduceSub, Nat.reducePow, Nat.reduceBEq, Int.reduceToNat, List.reduceReplicate, ren_arcs, renC_leave]
  repeat with_reducible refine cj ?_ ?_
  all_goals try first | omega
  refine hK1 _ _ _ ?_; clear hK1
  refine AW.seq fun K2 hK2 => ?_
  refine AW.seq fun K3 hK3 => ?_
  -- region 1
  refine AW.regionK 0 (fun i => if i = 3 then some (.reads false (.int .i64 ((0 : Nat) : Int))) else none) [1, 2, 3, 7, 9] [3] ?_
  simp only [go_sem, reduceIte, reduceCtorEq, Nat.reduceAdd, Nat.reduceMul, Nat.reduceEqDiff, Nat.reduceLT, Nat.reduceLeDiff, Nat.reduceSub, Nat.reducePow, Nat.reduceBEq, Int.reduceToNat, List.reduceReplicate, ren_arcs, renC_leave]
  repeat with_reducible refine cj ?_ ?_
  all_goals try first | omega | exact ent (by kernel_rfl)
  refine hK3 _ _ _ ?_; clear hK3
  refine AW.seq fun K4 hK4 => ?_
  -- region 2
  refine AW.regionK 0 (fun _ => none) [1, 2, 3, 7, 9, 17] [3] ?_
  simp only [go_sem, reduceIte, reduceCtorEq, Nat.reduceAdd, Nat.reduceMul, Nat.reduceEqDiff, Nat.reduceLT, Nat.reduceLeDiff, Nat.reduceSub, Nat.reducePow, Nat.reduceBEq, Int.reduceToNat, List.reduceReplicate, ren_arcs, renC_leave]
  repeat with_reducible refine cj ?_ ?_
  all_goals try first | omega
  refine hK4 _ _ _ ?_; clear hK4
  -- cond 1
  refine AW.cond rfl (by simp only [go_sem, reduceIte, reduceCtorEq, Nat.reduceAdd, Nat.reduceMul, Nat.reduceEqDiff, Nat.reduceLT, Nat.reduceLeDiff, Nat.reduceSub, Nat.reducePow, Nat.reduceBEq, Int.reduceToNat, List.reduceReplicate]) ?_ ?_
  · intro hb
    try simp only [hB, decide_eq_true_eq, decide_eq_false_iff_not] at hb
    exfalso; simp at hb
  · intro hb
    try simp only [hB, decide_eq_true_eq, decide_eq_false_iff_not] at hb
    refine AW.skip ?_
    refine hK2 _ _ _ ?_; clear hK2
    refine AW.seq fun K5 hK5 => ?_
    -- region 4
    refine AW.regionK 0 (fun i => if i = 1 then some (.upd [] (fun k => [(0, some ⟨k, k, 2, [[.osl 2 ((openP n).1.map arcV), .sl ⟨1, k, none⟩ 0 n.N.toNat none]]⟩), (1, some ⟨k, k, 1, leaveV (openP n).2⟩)]) (fun k => .ptr ⟨0, k, none⟩ 0 0)) else none) [1, 2, 3, 7, 10] [3, 20, 1020] ?_
    simp only [go_sem, reduceIte, reduceCtorEq, Nat.reduceAdd, Nat.reduceMul, Nat.reduceEqDiff, Nat.reduceLT, Nat.reduceLeDiff, Nat.reduceSub, Nat.reducePow, Nat.reduceBEq, Int.reduceToNat, List.reduceReplicate, ren_arcs, renC_leave]
    repeat with_reducible refine cj ?_ ?_
    all_goals try first | (exact hop) | omega | exact ent (by kernel_rfl)
    refine hK5 _ _ _ ?_; clear hK5
    refine AW.seq fun K6 hK6 => ?_
    -- region 5
    refine AW.regionK 0 (fun i => if i = 3 then some (.upd [20, 1020] (fun k => [(0, some ⟨24, k, 2, [[.osl 2 (A'.map arcV), .sl ⟨1, 24, none⟩ 0 n.N.toNat none]]⟩), (1, some ⟨24, k, 1, leaveV (openP n).2⟩)]) (fun _ => .tup [.int .i64 v', .rsl 1 (ints pr')])) else none) [3, 6, 7, 10] [3, 20, 1020] ?_
    simp only [go_sem, reduceIte, reduceCtorEq, Nat.reduceAdd, Nat.reduceMul, Nat.reduceEqDiff, Nat.reduceLT, Nat.reduceLeDiff, Nat.reduceSub, Nat.reducePow, Nat.reduceBEq, Int.reduceToNat, List.reduceReplicate, ren_arcs, renC_leave]
    repeat with_reducible refine cj ?_ ?_
    all_goals try first | (exact fill_u (openP n).1 (openP n).2 n.N.toNat s t _ _ _ _ F (by omega) (by omega) (by omega) (by omega) Inv hok hI A' v' pr' hf) | omega | exact ent (by kernel_rfl)
    refine hK6 _ _ _ ?_; clear hK6
    refine AW.seq fun K7 hK7 => ?_
    refine AW.seq fun K8 hK8 => ?_
    -- region 6
    refine AW.regionK 0 (fun _ => none) [6, 7, 10, 30, 31] [20, 1020] ?_
    simp only [go_sem, reduceIte, reduceCtorEq, Nat.reduceAdd, Nat.reduceMul, Nat.reduceEqDiff, Nat.reduceLT, Nat.reduceLeDiff, Nat.reduceSub, Nat.reducePow, Nat.reduceBEq, Int.reduceToNat, List.reduceReplicate, ren_arcs, renC_leave]
    repeat with_reducible refine cj ?_ ?_
    all_goals try first | omega
    refine hK8 _ _ _ ?_; clear hK8
    refine AW.block ?_
    refine AW.nilOwn 7 200 1 (by simp only [go_sem, reduceIte, Nat.reduceEqDiff]) ?_
    refine AW.keep [6, 7, 10, 30, 31] [20, 200] ?_
    simp only [go_sem, reduceIte, Nat.reduceEqDiff]
    -- loop 1
    refine AW.loopE (fun mm ee ss kk => ∃ (j g v : Nat), n.E.length - j = mm ∧ ee = [(6, .int .i64 v'), (7, .sl ⟨200, g, none⟩ 0 j none), (10, .ptr ⟨20, 24, none⟩ 0 0), (30, .int .i64 n.E.length), (31, .int .i64 (j : Nat))] ∧ ss = [(20, some ⟨24, 34, 2, [[.osl 2 (A'.map arcV), .sl ⟨1020, 24, none⟩ 0 n.N.toNat none]]⟩), (200, some ⟨g, v, 1, ints (flowOf A' j)⟩)] ∧ (j ≤ n.E.length)) ?_ ?_
    · refine ⟨_, 0, ?_, ?_, rfl, ?henv, ?hstore, ?hst⟩
      case henv =>
        repeat' (first | rfl | refine env_cons ?_ ?_ | refine st_cons ?_ ?_ ?_ ?_ | refine int_eq ?_ | refine bool_eq ?_ | refine rsl_eq ?_ | refine osl_eq ?_ | refine sl_eq ?_ ?_ ?_ | refine ptr_eq ?_ ?_ ?_ | refine agg_eq ?_ | refine es_cons ?_ ?_ | refine row_cons ?_ ?_)
        all_goals (first | (simp; done) | omega | (simp; omega))
      case hstore =>
        repeat' (first | rfl | refine env_cons ?_ ?_ | refine st_cons ?_ ?_ ?_ ?_ | refine int_eq ?_ | refine bool_eq ?_ | refine rsl_eq ?_ | refine osl_eq ?_ | refine sl_eq ?_ ?_ ?_ | refine ptr_eq ?_ ?_ ?_ | refine agg_eq ?_ | refine es_cons ?_ ?_ | refine row_cons ?_ ?_)
        all_goals (first | (simp; done) | omega | (simp; omega))
      case hst =>
        first | trivial | omega | (simp; done) | (simp; omega)
    rintro mm ee ss kk ⟨j, g, v, rfl, rfl, rfl, hI⟩
    generalize hQl1 : thenQ _ _ = Ql1
    refine AW.seq fun K9 hK9 => ?_
    -- region 7
    refine AW.regionK 0 (fun _ => none) [6, 7, 10, 30, 31, 32] [20, 200] ?_
    simp only [go_sem, reduceIte, reduceCtorEq, Nat.reduceAdd, Nat.reduceMul, Nat.reduceEqDiff, Nat.reduceLT, Nat.reduceLeDiff, Nat.reduceSub, Nat.reducePow, Nat.reduceBEq, Int.reduceToNat, List.reduceReplicate, ren_arcs, renC_leave]
    repeat with_reducible refine cj ?_ ?_
    all_goals try first | omega
    refine hK9 _ _ _ ?_; clear hK9
    refine AW.seq fun K10 hK10 => ?_
    -- cond 2
    refine AW.cond rfl (by simp only [go_sem, reduceIte, reduceCtorEq, Nat.reduceAdd, Nat.reduceMul, Nat.reduceEqDiff, Nat.reduceLT, Nat.reduceLeDiff, Nat.reduceSub, Nat.reducePow, Nat.reduceBEq, Int.reduceToNat, List.reduceReplicate]) ?_ ?_
    · intro hb
      try simp only [hB, decide_eq_true_eq, decide_eq_false_iff_not] at hb
      have hga := arcs_get (l := A') (i := (2 * (j : Int) + 1).toNat) (by omega)
      have hfl := flowOf_len A' j
      have hf1 := flowOf_succ A' j
      have htk : (flowOf A' j).take j = flowOf A' j := List.take_of_length_le (by omega)
      refine AW.skip ?_
      refine hK10 _ _ _ ?_; clear hK10
      refine AW.seq fun K11 hK11 => ?_
      refine AW.block ?_
      refine AW.seq fun K12 hK12 => ?_
      -- region 8
      refine AW.regionK 0 (fun _ => none) [6, 7, 10, 11, 30, 31] [20, 200] ?_
      simp only [go_sem, reduceIte, reduceCtorEq, Nat.reduceAdd, Nat.reduceMul, Nat.reduceEqDiff, Nat.reduceLT, Nat.reduceLeDiff, Nat.reduceSub, Nat.reducePow, Nat.reduceBEq, Int.reduceToNat, List.reduceReplicate, ren_arcs, renC_leave]
      repeat with_reducible refine cj ?_ ?_
      all_goals try first | omega
      refine hK12 _ _ _ ?_; clear hK12
      -- region 9
      refine AW.regionK 0 (fun _ => none) [6, 7, 10, 30, 31] [20, 200] ?_
      simp only [go_sem, reduceIte, reduceCtorEq, Nat.reduceAdd, Nat.reduceMul, Nat.reduceEqDiff, Nat.reduceLT, Nat.reduceLeDiff, Nat.reduceSub, Nat.reducePow, Nat.reduceBEq, Int.reduceToNat, List.reduceReplicate, ren_arcs, renC_leave, hga, htk, ints_app]
      repeat with_reducible refine cj ?_ ?_
      all_goals try first | omega | (simp [scP, scalar]; done)
      refine hK11 _ _ _ ?_; clear hK11
      -- region 10
      refine AW.regionK 0 (fun _ => none) [6, 7, 10, 30, 31] [20, 200] ?_
      simp only [go_sem, reduceIte, reduceCtorEq, Nat.reduceAdd, Nat.reduceMul, Nat.reduceEqDiff, Nat.reduceLT, Nat.reduceLeDiff, Nat.reduceSub, Nat.reducePow, Nat.reduceBEq, Int.reduceToNat, List.reduceReplicate, ren_arcs, renC_leave]
      repeat with_reducible refine cj ?_ ?_
      all_goals try first | omega
      rw [← hQl1]
      change Exists _
      refine ⟨_, ?hm, j + 1, ?_, ?_, rfl, ?henv, ?hstore, ?hst⟩
      case henv =>
        repeat' (first | rfl | refine env_cons ?_ ?_ | refine st_cons ?_ ?_ ?_ ?_ | refine int_eq ?_ | refine bool_eq ?_ | refine rsl_eq ?_ | refine osl_eq ?_ | refine sl_eq ?_ ?_ ?_ | refine ptr_eq ?_ ?_ ?_ | refine agg_eq ?_ | refine es_cons ?_ ?_ | refine row_cons ?_ ?_)
        all_goals (first | (simp; done) | omega | (simp; omega))
      case hstore =>
        repeat' (first | rfl | refine env_cons ?_ ?_ | refine st_cons ?_ ?_ ?_ ?_ | refine int_eq ?_ | refine bool_eq ?_ | refine rsl_eq ?_ | refine osl_eq ?_ | refine sl_eq ?_ ?_ ?_ | refine ptr_eq ?_ ?_ ?_ | refine agg_eq ?_ | refine es_cons ?_ ?_ | refine row_cons ?_ ?_)
        all_goals (rw [hf1])
      case hst =>
        first | trivial | omega | (simp; done) | (simp; omega)
      case hm => omega
    · intro hb
      try simp only [hB, decide_eq_true_eq, decide_eq_false_iff_not] at hb
      refine AW.exit ?_
      rw [← hQl1]
      refine hK7 _ _ _ ?_; clear hK7
      refine AW.seq fun K13 hK13 => ?_
      -- region 11
      refine AW.regionK 0 (fun _ => none) [6, 7, 8] [200] ?_
      simp only [go_sem, reduceIte, reduceCtorEq, Nat.reduceAdd, Nat.reduceMul, Nat.reduceEqDiff, Nat.reduceLT, Nat.reduceLeDiff, Nat.reduceSub, Nat.reducePow, Nat.reduceBEq, Int.reduceToNat, List.reduceReplicate, ren_arcs, renC_leave]
      repeat with_reducible refine cj ?_ ?_
      all_goals try first | omega
      refine hK13 _ _ _ ?_; clear hK13
      refine AW.ret ?_
      rw [← hQr]
      simp only [go_sem, reduceIte, reduceCtorEq, Nat.reduceAdd, Nat.reduceMul, Nat.reduceEqDiff, Nat.reduceLT, Nat.reduceLeDiff, Nat.reduceSub, Nat.reducePow, Nat.reduceBEq, Int.reduceToNat, List.reduceReplicate, ren_arcs, renC_leave]
      have hj : j = n.E.length := by omega
      subst hj
      refine Wk.of_eq ?_
      have hfl := flowOf_len A' n.E.length
      simp only [ints, vwc_map_int]
      rw [List.take_of_length_le (by omega)]
end Go.Proofs.F
/- Sets as words, lists: what the program computes. -/
namespace Go.AM
def eqL (a b : List Int) : Bool := a == b
theorem eqL_len {a b : List Int} (h : a.length ≠ b.length) : (a == b) = false := by
  rw [beq_eq_false_iff_ne]; exact fun e => h (by rw [e])
theorem eqL_ne {a b : List Int} {j : Nat} {x y : Int} (ha : a[j]? = some x) (hb : b[j]? = some y) (h : x ≠ y) : (a == b) = false := by
  rw [beq_eq_false_iff_ne]; intro e; subst e; rw [ha] at hb; exact h (Option.some.inj hb)
theorem take_succ_eq {a b : List Int} {j : Nat} {x : Int} (ha : a[j]? = some x) (hb : b[j]? = some x) (h : a.take j = b.take j) : a.take (j + 1) = b.take (j + 1) := by
  obtain ⟨h1, h2⟩ := List.getElem?_eq_some_iff.1 ha
  obtain ⟨h3, h4⟩ := List.getElem?_eq_some_iff.1 hb
  rw [List.take_succ_eq_append_getElem h1, List.take_succ_eq_append_getElem h3, h, h2, h4]
theorem noOsl_words (l : List Int) : noOsl (words l) := noOsl_map (noOslR_int _) l

def memb (l : List Int) (m : Nat) : List Int := ((List.range m).filter fun i => l.getD i 0 != -1).map fun (i : Nat) => (i : Int)
theorem memb_succ (l : List Int) (m : Nat) : memb l (m + 1) = if l.getD m 0 = -1 then memb l m else memb l m ++ [(m : Int)] := by
  unfold memb
  rw [List.range_succ, List.filter_append, List.map_append]
  by_cases h : l.getD m 0 = -1
  · have h' := h; rw [List.getD_eq_getElem?_getD] at h'; rw [if_pos h]; simp [List.filter_cons, h']
  · have h' := h; rw [List.getD_eq_getElem?_getD] at h'; rw [if_neg h]; simp [List.filter_cons, h']
theorem memb_le (l : List Int) (m : Nat) : (memb l m).length ≤ m := by
  unfold memb
  have := List.length_filter_le (fun i => l.getD i 0 != -1) (List.range m)
  simp at this ⊢
  exact this
/-- A bit is set. -/
def setBit (W : List Int) (i : Int) : List Int := W.set (i.tdiv 64).toNat (bOr .u64 (W.getD (i.tdiv 64).toNat 0) (bShl .u64 1 (i.tmod 64)))
def wordsN (n : Int) : Int := (n + 64 - 1).tdiv 64
def ofW (n : Int) (l : List Int) : List Int := l.foldl setBit (List.replicate (wordsN n).toNat 0)
theorem wordsN_rng {n : Int} (h0 : 0 ≤ n) : 0 ≤ wordsN n ∧ n ≤ 64 * wordsN n ∧ 64 * wordsN n ≤ n + 63 := by
  unfold wordsN; rw [Int.tdiv_eq_ediv_of_nonneg (by omega)]; omega
theorem div64_rng {i n : Int} (h0 : 0 ≤ i) (h1 : i < n) : 0 ≤ i.tdiv 64 ∧ i.tdiv 64 < wordsN n ∧ 0 ≤ i.tmod 64 ∧ i.tmod 64 < 64 := by
  have := wordsN_rng (n := n) (by omega)
  rw [Int.tdiv_eq_ediv_of_nonneg h0, Int.tmod_eq_emod_of_nonneg h0]; omega
theorem ofW_len (n : Int) (l : List Int) : (ofW n l).length = (wordsN n).toNat := by
  unfold ofW
  generalize hW : List.replicate (wordsN n).toNat (0 : Int) = W
  have : W.length = (wordsN n).toNat := by rw [← hW]; simp
  clear hW
  induction l generalizing W with
  | nil => exact this
  | cons a l ih => exact ih (setBit W a) (by simp [setBit, this])
theorem ofW_succ {n : Int} {l : List Int} {j : Nat} {x : Int} (h : l[j]? = some x) : ofW n (l.take (j + 1)) = setBit (ofW n (l.take j)) x := by
  obtain ⟨hj, rfl⟩ := List.getElem?_eq_some_iff.1 h
  unfold ofW
  rw [List.take_succ_eq_append_getElem hj, List.foldl_append]; rfl
end Go.AM
namespace Go.Proofs.F
open Go.AM Go
set_option maxRecDepth 100000
set_option maxHeartbeats 1000000
theorem eqi_r (a b : List Int) (hla : a.length ≤ 9223372036854775807) : Reads Try.prog 36 false [.rsl 1 (ints a), .rsl 1 (ints b)] (.bool (a == b)) := by
  refine Reads.body (rs := [.tmp 4]) Try.func36 rfl Try.ntmps36 rfl (by simp) ?_
  generalize hQr : retQ _ _ _ = Qr
  refine AW.seq fun K1 hK1 => ?_
  -- region 0
  refine AW.regionK 0 (fun _ => none) [0, 1] [] ?_
  simp only [go_sem, reduceIte, reduceCtorEq, Nat.reduceAdd, Nat.reduceMul, Nat.reduceEqDiff, Nat.reduceLT, Nat.reduceLeDiff, Nat.reduceSub, Nat.reducePow, Nat.reduceBEq, Int.reduceToNat, List.reduceReplicate]
  repeat with_reducible refine cj ?_ ?_
  all_goals try first | omega
  refine hK1 _ _ _ ?_; clear hK1
  refine AW.seq fun K2 hK2 => ?_
  refine AW.seq fun K3 hK3 => ?_
  -- region 1
  refine AW.regionK 0 (fun _ => none) [0, 1, 10] [] ?_
  simp only [go_sem, reduceIte, reduceCtorEq, Nat.reduceAdd, Nat.reduceMul, Nat.reduceEqDiff, Nat.reduceLT, Nat.reduceLeDiff, Nat.reduceSub, Nat.reducePow, Nat.reduceBEq, Int.reduceToNat, List.reduceReplicate]
  repeat with_reducible refine cj ?_ ?_
  all_goals try first | omega
  refine hK3 _ _ _ ?_; clear hK3
  -- cond 1
  refine AW.cond rfl (by simp only [go_sem, reduceIte, reduceCtorEq, Nat.reduceAdd, Nat.reduceMul, Nat.reduceEqDiff, Nat.reduceLT, Nat.reduceLeDiff, Nat.reduceSub, Nat.reducePow, Nat.reduceBEq, Int.reduceToNat, List.reduceReplicate]) ?_ ?_
  · intro hb
    try simp only [hB, decide_eq_true_eq, decide_eq_false_iff_not] at hb
    rw [← Ne, Ne, Int.natCast_inj] at hb
    refine AW.seq fun K4 hK4 => ?_
    -- region 2
    refine AW.regionK 0 (fun _ => none) [4] [] ?_
    simp only [go_sem, reduceIte, reduceCtorEq, Nat.reduceAdd, Nat.reduceMul, Nat.reduceEqDiff, Nat.reduceLT, Nat.reduceLeDiff, Nat.reduceSub, Nat.reducePow, Nat.reduceBEq, Int.reduceToNat, List.reduceReplicate]
    repeat with_reducible refine cj ?_ ?_
    all_goals try first | omega
    refine hK4 _ _ _ ?_; clear hK4
    refine AW.ret ?_
    rw [← hQr]
    simp only [go_sem, reduceIte, reduceCtorEq, Nat.reduceAdd, Nat.reduceMul, Nat.reduceEqDiff, Nat.reduceLT, Nat.reduceLeDiff, Nat.reduceSub, Nat.reducePow, Nat.reduceBEq, Int.reduceToNat, List.reduceReplicate]
    exact Wk.of_eq (by rw [eqL_len hb])
  · intro hb
    try simp only [hB, decide_eq_true_eq, decide_eq_false_iff_not] at hb
    have hlen : a.length = b.length := by omega
    refine AW.skip ?_
    refine hK2 _ _ _ ?_; clear hK2
    refine AW.seq fun K5 hK5 => ?_
    refine AW.seq fun K6 hK6 => ?_
    -- region 3
    refine AW.regionK 0 (fun _ => none) [0, 1, 12, 13] [] ?_
    simp only [go_sem, reduceIte, reduceCtorEq, Nat.reduceAdd, Nat.reduceMul, Nat.reduceEqDiff, Nat.reduceLT, Nat.reduceLeDiff, Nat.reduceSub, Nat.reducePow, Nat.reduceBEq, Int.reduceToNat, List.reduceReplicate]
    repeat with_reducible refine cj ?_ ?_
    all_goals try first | omega
    refine hK6 _ _ _ ?_; clear hK6
    refine AW.block ?_
    -- loop 1
    refine AW.loopE (fun mm ee ss kk => ∃ (j : Nat), a.length - j = mm ∧ ee = [(0, .rsl 1 (ints a)), (1, .rsl 1 (ints b)), (12, .int .i64 a.length), (13, .int .i64 (j : Nat))] ∧ ss = [] ∧ (j ≤ a.length ∧ a.take j = b.take j)) ?_ ?_
    · refine ⟨_, 0, rfl, ?henv, ?hstore, ?hst⟩
      case henv =>
        repeat' (first | rfl | refine env_cons ?_ ?_ | refine st_cons ?_ ?_ ?_ ?_ | refine int_eq ?_ | refine bool_eq ?_ | refine rsl_eq ?_ | refine osl_eq ?_ | refine sl_eq ?_ ?_ ?_ | refine ptr_eq ?_ ?_ ?_ | refine agg_eq ?_ | refine es_cons ?_ ?_ | refine row_cons ?_ ?_)
        all_goals (first | (simp; done) | omega | (simp; omega))
      case hstore =>
        repeat' (first | rfl | refine env_cons ?_ ?_ | refine st_cons ?_ ?_ ?_ ?_ | refine int_eq ?_ | refine bool_eq ?_ | refine rsl_eq ?_ | refine osl_eq ?_ | refine sl_eq ?_ ?_ ?_ | refine ptr_eq ?_ ?_ ?_ | refine agg_eq ?_ | refine es_cons ?_ ?_ | refine row_cons ?_ ?_)
        all_goals (first | (simp; done) | omega | (simp; omega))
      case hst =>
        first | trivial | omega | (simp; done) | (simp; omega)
    rintro mm ee ss kk ⟨j, rfl, rfl, rfl, hI⟩
    generalize hQl1 : thenQ _ _ = Ql1
    obtain ⟨hj, hall⟩ := hI
    refine AW.seq fun K7 hK7 => ?_
    -- region 4
    refine AW.regionK 0 (fun _ => none) [0, 1, 12, 13, 14] [] ?_
    simp only [go_sem, reduceIte, reduceCtorEq, Nat.reduceAdd, Nat.reduceMul, Nat.reduceEqDiff, Nat.reduceLT, Nat.reduceLeDiff, Nat.reduceSub, Nat.reducePow, Nat.reduceBEq, Int.reduceToNat, List.reduceReplicate]
    repeat with_reducible refine cj ?_ ?_
    all_goals try first | omega
    refine hK7 _ _ _ ?_; clear hK7
    refine AW.seq fun K8 hK8 => ?_
    -- cond 2
    refine AW.cond rfl (by simp only [go_sem, reduceIte, reduceCtorEq, Nat.reduceAdd, Nat.reduceMul, Nat.reduceEqDiff, Nat.reduceLT, Nat.reduceLeDiff, Nat.reduceSub, Nat.reducePow, Nat.reduceBEq, Int.reduceToNat, List.reduceReplicate]) ?_ ?_
    · intro hb
      try simp only [hB, decide_eq_true_eq, decide_eq_false_iff_not] at hb
      obtain ⟨x, hx⟩ := getI (l := a) (j := j) (by omega)
      obtain ⟨y, hy⟩ := getI (l := b) (j := j) (by omega)
      have hgx := ints_get hx
      have hgy := ints_get hy
      refine AW.skip ?_
      refine hK8 _ _ _ ?_; clear hK8
      refine AW.seq fun K9 hK9 => ?_
      refine AW.block ?_
      refine AW.seq fun K10 hK10 => ?_
      -- region 5
      refine AW.regionK 0 (fun _ => none) [0, 1, 5, 12, 13] [] ?_
      simp only [go_sem, reduceIte, reduceCtorEq, Nat.reduceAdd, Nat.reduceMul, Nat.reduceEqDiff, Nat.reduceLT, Nat.reduceLeDiff, Nat.reduceSub, Nat.reducePow, Nat.reduceBEq, Int.reduceToNat, List.reduceReplicate]
      repeat with_reducible refine cj ?_ ?_
      all_goals try first | omega
      refine hK10 _ _ _ ?_; clear hK10
      refine AW.seq fun K11 hK11 => ?_
      -- region 6
      refine AW.regionD mixed 0 (fun _ => none) [0, 1, 12, 13, 24] [] ?_
      simp only [go_sem, reduceIte, reduceCtorEq, Nat.reduceAdd, Nat.reduceMul, Nat.reduceEqDiff, Nat.reduceLT, Nat.reduceLeDiff, Nat.reduceSub, Nat.reducePow, Nat.reduceBEq, Int.reduceToNat, List.reduceReplicate, hgx, hgy]
      repeat with_reducible refine cj ?_ ?_
      all_goals try first | omega | exact chk (by kernel_rfl)
      refine hK11 _ _ _ ?_; clear hK11
      -- cond 3
      refine AW.cond rfl (by simp only [go_sem, reduceIte, reduceCtorEq, Nat.reduceAdd, Nat.reduceMul, Nat.reduceEqDiff, Nat.reduceLT, Nat.reduceLeDiff, Nat.reduceSub, Nat.reducePow, Nat.reduceBEq, Int.reduceToNat, List.reduceReplicate]) ?_ ?_
      · intro hb
        try simp only [hB, decide_eq_true_eq, decide_eq_false_iff_not] at hb
        refine AW.seq fun K12 hK12 => ?_
        -- region 7
        refine AW.regionK 0 (fun _ => none) [4] [] ?_
        simp only [go_sem, reduceIte, reduceCtorEq, Nat.reduceAdd, Nat.reduceMul, Nat.reduceEqDiff, Nat.reduceLT, Nat.reduceLeDiff, Nat.reduceSub, Nat.reducePow, Nat.reduceBEq, Int.reduceToNat, List.reduceReplicate]
        repeat with_reducible refine cj ?_ ?_
        all_goals try first | omega
        refine hK12 _ _ _ ?_; clear hK12
        refine AW.ret ?_
        rw [← hQl1]
        rw [← hQr]
        simp only [go_sem, reduceIte, reduceCtorEq, Nat.reduceAdd, Nat.reduceMul, Nat.reduceEqDiff, Nat.reduceLT, Nat.reduceLeDiff, Nat.reduceSub, Nat.reducePow, Nat.reduceBEq, Int.reduceToNat, List.reduceReplicate]
        exact Wk.of_eq (by rw [eqL_ne hx hy hb])
      · intro hb
        try simp only [hB, decide_eq_true_eq, decide_eq_false_iff_not] at hb
        have hxy : x = y := by omega
        subst hxy
        refine AW.skip ?_
        refine hK9 _ _ _ ?_; clear hK9
        -- region 8
        refine AW.regionK 0 (fun _ => none) [0, 1, 12, 13] [] ?_
        simp only [go_sem, reduceIte, reduceCtorEq, Nat.reduceAdd, Nat.reduceMul, Nat.reduceEqDiff, Nat.reduceLT, Nat.reduceLeDiff, Nat.reduceSub, Nat.reducePow, Nat.reduceBEq, Int.reduceToNat, List.reduceReplicate]
        repeat with_reducible refine cj ?_ ?_
        all_goals try first | omega
        rw [← hQl1]
        change Exists _
        refine ⟨_, ?hm, j + 1, rfl, ?henv, ?hstore, ?hst⟩
        case henv =>
          repeat' (first | rfl | refine env_cons ?_ ?_ | refine st_cons ?_ ?_ ?_ ?_ | refine int_eq ?_ | refine bool_eq ?_ | refine rsl_eq ?_ | refine osl_eq ?_ | refine sl_eq ?_ ?_ ?_ | refine ptr_eq ?_ ?_ ?_ | refine agg_eq ?_ | refine es_cons ?_ ?_ | refine row_cons ?_ ?_)
          all_goals (first | (simp; done) | omega | (simp; omega))
        case hstore =>
          repeat' (first | rfl | refine env_cons ?_ ?_ | refine st_cons ?_ ?_ ?_ ?_ | refine int_eq ?_ | refine bool_eq ?_ | refine rsl_eq ?_ | refine osl_eq ?_ | refine sl_eq ?_ ?_ ?_ | refine ptr_eq ?_ ?_ ?_ | refine agg_eq ?_ | refine es_cons ?_ ?_ | refine row_cons ?_ ?_)
          all_goals (first | (simp; done) | omega | (simp; omega))
        case hst =>
          exact ⟨by omega, take_succ_eq hx hy hall⟩
        case hm => omega
    · intro hb
      try simp only [hB, decide_eq_true_eq, decide_eq_false_iff_not] at hb
      refine AW.keep [] [] ?_
      try simp only [go_sem, reduceIte, reduceCtorEq, Nat.reduceAdd, Nat.reduceMul, Nat.reduceEqDiff, Nat.reduceLT, Nat.reduceLeDiff, Nat.reduceSub, Nat.reducePow, Nat.reduceBEq, Int.reduceToNat, List.reduceReplicate]
      refine AW.exit ?_
      rw [← hQl1]
      refine hK5 _ _ _ ?_; clear hK5
      refine AW.seq fun K13 hK13 => ?_
      -- region 9
      refine AW.regionK 0 (fun _ => none) [4] [] ?_
      simp only [go_sem, reduceIte, reduceCtorEq, Nat.reduceAdd, Nat.reduceMul, Nat.reduceEqDiff, Nat.reduceLT, Nat.reduceLeDiff, Nat.reduceSub, Nat.reducePow, Nat.reduceBEq, Int.reduceToNat, List.reduceReplicate]
      repeat with_reducible refine cj ?_ ?_
      all_goals try first | omega
      refine hK13 _ _ _ ?_; clear hK13
      refine AW.ret ?_
      rw [← hQr]
      simp only [go_sem, reduceIte, reduceCtorEq, Nat.reduceAdd, Nat.reduceMul, Nat.reduceEqDiff, Nat.reduceLT, Nat.reduceLeDiff, Nat.reduceSub, Nat.reducePow, Nat.reduceBEq, Int.reduceToNat, List.reduceReplicate]
      exact Wk.of_eq (by rw [List.take_of_length_le (by omega), List.take_of_length_le (by omega)] at hall; rw [hall]; simp)
theorem eqw_r (a b : List Int) (hla : a.length ≤ 9223372036854775807) : Reads Try.prog 37 false [.rsl 1 (words a), .rsl 1 (words b)] (.bool (a == b)) := by
  refine Reads.body (rs := [.tmp 4]) Try.func37 rfl Try.ntmps37 rfl (by simp) ?_
  generalize hQr : retQ _ _ _ = Qr
  refine AW.seq fun K1 hK1 => ?_
  -- region 0
  refine AW.regionK 0 (fun _ => none) [0, 1] [] ?_
  simp only [go_sem, reduceIte, reduceCtorEq, Nat.reduceAdd, Nat.reduceMul, Nat.reduceEqDiff, Nat.reduceLT, Nat.reduceLeDiff, Nat.reduceSub, Nat.reducePow, Nat.reduceBEq, Int.reduceToNat, List.reduceReplicate]
  repeat with_reducible refine cj ?_ ?_
  all_goals try first | omega
  refine hK1 _ _ _ ?_; clear hK1
  refine AW.seq fun K2 hK2 => ?_
  refine AW.seq fun K3 hK3 => ?_
  -- region 1
  refine AW.regionK 0 (fun _ => none) [0, 1, 10] [] ?_
  simp only [go_sem, reduceIte, reduceCtorEq, Nat.reduceAdd, Nat.reduceMul, Nat.reduceEqDiff, Nat.reduceLT, Nat.reduceLeDiff, Nat.reduceSub, Nat.reducePow, Nat.reduceBEq, Int.reduceToNat, List.reduceReplicate]
  repeat with_reducible refine cj ?_ ?_
  all_goals try first | omega
  refine hK3 _ _ _ ?_; clear hK3
  -- cond 1
  refine AW.cond rfl (by simp only [go_sem, reduceIte, reduceCtorEq, Nat.reduceAdd, Nat.reduceMul, Nat.reduceEqDiff, Nat.reduceLT, Nat.reduceLeDiff, Nat.reduceSub, Nat.reducePow, Nat.reduceBEq, Int.reduceToNat, List.reduceReplicate]) ?_ ?_
  · intro hb
    try simp only [hB, decide_eq_true_eq, decide_eq_false_iff_not] at hb
    rw [← Ne, Ne, Int.natCast_inj] at hb
    refine AW.seq fun K4 hK4 => ?_
    -- region 2
    refine AW.regionK 0 (fun _ => none) [4] [] ?_
    simp only [go_sem, reduceIte, reduceCtorEq, Nat.reduceAdd, Nat.reduceMul, Nat.reduceEqDiff, Nat.reduceLT, Nat.reduceLeDiff, Nat.reduceSub, Nat.reducePow, Nat.reduceBEq, Int.reduceToNat, List.reduceReplicate]
    repeat with_reducible refine cj ?_ ?_
    all_goals try first | omega
    refine hK4 _ _ _ ?_; clear hK4
    refine AW.ret ?_
    rw [← hQr]
    simp only [go_sem, reduceIte, reduceCtorEq, Nat.reduceAdd, Nat.reduceMul, Nat.reduceEqDiff, Nat.reduceLT, Nat.reduceLeDiff, Nat.reduceSub, Nat.reducePow, Nat.reduceBEq, Int.reduceToNat, List.reduceReplicate]
    exact Wk.of_eq (by rw [eqL_len hb])
  · intro hb
    try simp only [hB, decide_eq_true_eq, decide_eq_false_iff_not] at hb
    have hlen : a.length = b.length := by omega
    refine AW.skip ?_
    refine hK2 _ _ _ ?_; clear hK2
    refine AW.seq fun K5 hK5 => ?_
    refine AW.seq fun K6 hK6 => ?_
    -- region 3
    refine AW.regionK 0 (fun _ => none) [0, 1, 12, 13] [] ?_
    simp only [go_sem, reduceIte, reduceCtorEq, Nat.reduceAdd, Nat.reduceMul, Nat.reduceEqDiff, Nat.reduceLT, Nat.reduceLeDiff, Nat.reduceSub, Nat.reducePow, Nat.reduceBEq, Int.reduceToNat, List.reduceReplicate]
    repeat with_reducible refine cj ?_ ?_
    all_goals try first | omega
    refine hK6 _ _ _ ?_; clear hK6
    refine AW.block ?_
    -- loop 1
    refine AW.loopE (fun mm ee ss kk => ∃ (j : Nat), a.length - j = mm ∧ ee = [(0, .rsl 1 (words a)), (1, .rsl 1 (words b)), (12, .int .i64 a.length), (13, .int .i64 (j : Nat))] ∧ ss = [] ∧ (j ≤ a.length ∧ a.take j = b.take j)) ?_ ?_
    · refine ⟨_, 0, rfl, ?henv, ?hstore, ?hst⟩
      case henv =>
        repeat' (first | rfl | refine env_cons ?_ ?_ | refine st_cons ?_ ?_ ?_ ?_ | refine int_eq ?_ | refine bool_eq ?_ | refine rsl_eq ?_ | refine osl_eq ?_ | refine sl_eq ?_ ?_ ?_ | refine ptr_eq ?_ ?_ ?_ | refine agg_eq ?_ | refine es_cons ?_ ?_ | refine row_cons ?_ ?_)
        all_goals (first | (simp; done) | omega | (simp; omega))
      case hstore =>
        repeat' (first | rfl | refine env_cons ?_ ?_ | refine st_cons ?_ ?_ ?_ ?_ | refine int_eq ?_ | refine bool_eq ?_ | refine rsl_eq ?_ | refine osl_eq ?_ | refine sl_eq ?_ ?_ ?_ | refine ptr_eq ?_ ?_ ?_ | refine agg_eq ?_ | refine es_cons ?_ ?_ | refine row_cons ?_ ?_)
        all_goals (first | (simp; done) | omega | (simp; omega))
      case hst =>
        first | trivial | omega | (simp; done) | (simp; omega)
    rintro mm ee ss kk ⟨j, rfl, rfl, rfl, hI⟩
    generalize hQl1 : thenQ _ _ = Ql1
    obtain ⟨hj, hall⟩ := hI
    refine AW.seq fun K7 hK7 => ?_
    -- region 4
    refine AW.regionK 0 (fun _ => none) [0, 1, 12, 13, 14] [] ?_
    simp only [go_sem, reduceIte, reduceCtorEq, Nat.reduceAdd, Nat.reduceMul, Nat.reduceEqDiff, Nat.reduceLT, Nat.reduceLeDiff, Nat.reduceSub, Nat.reducePow, Nat.reduceBEq, Int.reduceToNat, List.reduceReplicate]
    repeat with_reducible refine cj ?_ ?_
    all_goals try first | omega
    refine hK7 _ _ _ ?_; clear hK7
    refine AW.seq fun K8 hK8 => ?_
    -- cond 2
    refine AW.cond rfl (by simp only [go_sem, reduceIte, reduceCtorEq, Nat.reduceAdd, Nat.reduceMul, Nat.reduceEqDiff, Nat.reduceLT, Nat.reduceLeDiff, Nat.reduceSub, Nat.reducePow, Nat.reduceBEq, Int.reduceToNat, List.reduceReplicate]) ?_ ?_
    · intro hb
      try simp only [hB, decide_eq_true_eq, decide_eq_false_iff_not] at hb
      obtain ⟨x, hx⟩ := getI (l := a) (j := j) (by omega)
      obtain ⟨y, hy⟩ := getI (l := b) (j := j) (by omega)
      have hgx := words_get hx
      have hgy := words_get hy
      refine AW.skip ?_
      refine hK8 _ _ _ ?_; clear hK8
      refine AW.seq fun K9 hK9 => ?_
      refine AW.block ?_
      refine AW.seq fun K10 hK10 => ?_
      -- region 5
      refine AW.regionK 0 (fun _ => none) [0, 1, 5, 12, 13] [] ?_
      simp only [go_sem, reduceIte, reduceCtorEq, Nat.reduceAdd, Nat.reduceMul, Nat.reduceEqDiff, Nat.reduceLT, Nat.reduceLeDiff, Nat.reduceSub, Nat.reducePow, Nat.reduceBEq, Int.reduceToNat, List.reduceReplicate]
      repeat with_reducible refine cj ?_ ?_
      all_goals try first | omega
      refine hK10 _ _ _ ?_; clear hK10
      refine AW.seq fun K11 hK11 => ?_
      -- region 6
      refine AW.regionD mixed 0 (fun _ => none) [0, 1, 12, 13, 24] [] ?_
      simp only [go_sem, reduceIte, reduceCtorEq, Nat.reduceAdd, Nat.reduceMul, Nat.reduceEqDiff, Nat.reduceLT, Nat.reduceLeDiff, Nat.reduceSub, Nat.reducePow, Nat.reduceBEq, Int.reduceToNat, List.reduceReplicate, hgx, hgy]
      repeat with_reducible refine cj ?_ ?_
      all_goals try first | omega | exact chk (by kernel_rfl)
      refine hK11 _ _ _ ?_; clear hK11
      -- cond 3
      refine AW.cond rfl (by simp only [go_sem, reduceIte, reduceCtorEq, Nat.reduceAdd, Nat.reduceMul, Nat.reduceEqDiff, Nat.reduceLT, Nat.reduceLeDiff, Nat.reduceSub, Nat.reducePow, Nat.reduceBEq, Int.reduceToNat, List.reduceReplicate]) ?_ ?_
      · intro hb
        try simp only [hB, decide_eq_true_eq, decide_eq_false_iff_not] at hb
        refine AW.seq fun K12 hK12 => ?_
        -- region 7
        refine AW.regionK 0 (fun _ => none) [4] [] ?_
        simp only [go_sem, reduceIte, reduceCtorEq, Nat.reduceAdd, Nat.reduceMul, Nat.reduceEqDiff, Nat.reduceLT, Nat.reduceLeDiff, Nat.reduceSub, Nat.reducePow, Nat.reduceBEq, Int.reduceToNat, List.reduceReplicate]
        repeat with_reducible refine cj ?_ ?_
        all_goals try first | omega
        refine hK12 _ _ _ ?_; clear hK12
        refine AW.ret ?_
        rw [← hQl1]
        rw [← hQr]
        simp only [go_sem, reduceIte, reduceCtorEq, Nat.reduceAdd, Nat.reduceMul, Nat.reduceEqDiff, Nat.reduceLT, Nat.reduceLeDiff, Nat.reduceSub, Nat.reducePow, Nat.reduceBEq, Int.reduceToNat, List.reduceReplicate]
        exact Wk.of_eq (by rw [eqL_ne hx hy hb])
      · intro hb
        try simp only [hB, decide_eq_true_eq, decide_eq_false_iff_not] at hb
        have hxy : x = y := by omega
        subst hxy
        refine AW.skip ?_
        refine hK9 _ _ _ ?_; clear hK9
        -- region 8
        refine AW.regionK 0 (fun _ => none) [0, 1, 12, 13] [] ?_
        simp only [go_sem, reduceIte, reduceCtorEq, Nat.reduceAdd, Nat.reduceMul, Nat.reduceEqDiff, Nat.reduceLT, Nat.reduceLeDiff, Nat.reduceSub, Nat.reducePow, Nat.reduceBEq, Int.reduceToNat, List.reduceReplicate]
        repeat with_reducible refine cj ?_ ?_
        all_goals try first | omega
        rw [← hQl1]
        change Exists _
        refine ⟨_, ?hm, j + 1, rfl, ?henv, ?hstore, ?hst⟩
        case henv =>
          repeat' (first | rfl | refine env_cons ?_ ?_ | refine st_cons ?_ ?_ ?_ ?_ | refine int_eq ?_ | refine bool_eq ?_ | refine rsl_eq ?_ | refine osl_eq ?_ | refine sl_eq ?_ ?_ ?_ | refine ptr_eq ?_ ?_ ?_ | refine agg_eq ?_ | refine es_cons ?_ ?_ | refine row_cons ?_ ?_)
          all_goals (first | (simp; done) | omega | (simp; omega))
        case hstore =>
          repeat' (first | rfl | refine env_cons ?_ ?_ | refine st_cons ?_ ?_ ?_ ?_ | refine int_eq ?_ | refine bool_eq ?_ | refine rsl_eq ?_ | refine osl_eq ?_ | refine sl_eq ?_ ?_ ?_ | refine ptr_eq ?_ ?_ ?_ | refine agg_eq ?_ | refine es_cons ?_ ?_ | refine row_cons ?_ ?_)
          all_goals (first | (simp; done) | omega | (simp; omega))
        case hst =>
          exact ⟨by omega, take_succ_eq hx hy hall⟩
        case hm => omega
    · intro hb
      try simp only [hB, decide_eq_true_eq, decide_eq_false_iff_not] at hb
      refine AW.keep [] [] ?_
      try simp only [go_sem, reduceIte, reduceCtorEq, Nat.reduceAdd, Nat.reduceMul, Nat.reduceEqDiff, Nat.reduceLT, Nat.reduceLeDiff, Nat.reduceSub, Nat.reducePow, Nat.reduceBEq, Int.reduceToNat, List.reduceReplicate]
      refine AW.exit ?_
      rw [← hQl1]
      refine hK5 _ _ _ ?_; clear hK5
      refine AW.seq fun K13 hK13 => ?_
      -- region 9
      refine AW.regionK 0 (fun _ => none) [4] [] ?_
      simp only [go_sem, reduceIte, reduceCtorEq, Nat.reduceAdd, Nat.reduceMul, Nat.reduceEqDiff, Nat.reduceLT, Nat.reduceLeDiff, Nat.reduceSub, Nat.reducePow, Nat.reduceBEq, Int.reduceToNat, List.reduceReplicate]
      repeat with_reducible refine cj ?_ ?_
      all_goals try first | omega
      refine hK13 _ _ _ ?_; clear hK13
      refine AW.ret ?_
      rw [← hQr]
      simp only [go_sem, reduceIte, reduceCtorEq, Nat.reduceAdd, Nat.reduceMul, Nat.reduceEqDiff, Nat.reduceLT, Nat.reduceLeDiff, Nat.reduceSub, Nat.reducePow, Nat.reduceBEq, Int.reduceToNat, List.reduceReplicate]
      exact Wk.of_eq (by rw [List.take_of_length_le (by omega), List.take_of_length_le (by omega)] at hall; rw [hall]; simp)
theorem members_r (pr : List Int) (n : Nat) (hn : n ≤ pr.length) (hl : n ≤ 1000000) : Reads Try.prog 44 true [.rsl 1 (ints pr), .int .i64 n] (.rsl 1 (ints (memb pr n))) := by
  refine Reads.bodyF (rs := [.tmp 4]) Try.func44 rfl Try.ntmps44 rfl (by simp) ?_
  generalize hQr : retQ _ _ _ = Qr
  refine AW.seq fun K1 hK1 => ?_
  -- region 0
  refine AW.regionK 0 (fun _ => none) [0, 1] [] ?_
  simp only [go_sem, reduceIte, reduceCtorEq, Nat.reduceAdd, Nat.reduceMul, Nat.reduceEqDiff, Nat.reduceLT, Nat.reduceLeDiff, Nat.reduceSub, Nat.reducePow, Nat.reduceBEq, Int.reduceToNat, List.reduceReplicate]
  repeat with_reducible refine cj ?_ ?_
  all_goals try first | omega
  refine hK1 _ _ _ ?_; clear hK1
  refine AW.seq fun K2 hK2 => ?_
  -- region 1
  refine AW.regionK 0 (fun _ => none) [0, 1, 5] [] ?_
  simp only [go_sem, reduceIte, reduceCtorEq, Nat.reduceAdd, Nat.reduceMul, Nat.reduceEqDiff, Nat.reduceLT, Nat.reduceLeDiff, Nat.reduceSub, Nat.reducePow, Nat.reduceBEq, Int.reduceToNat, List.reduceReplicate]
  repeat with_reducible refine cj ?_ ?_
  all_goals try first | omega
  refine hK2 _ _ _ ?_; clear hK2
  refine AW.seq fun K3 hK3 => ?_
  refine AW.seq fun K4 hK4 => ?_
  -- region 2
  refine AW.regionK 0 (fun _ => none) [5, 10, 11, 12] [] ?_
  simp only [go_sem, reduceIte, reduceCtorEq, Nat.reduceAdd, Nat.reduceMul, Nat.reduceEqDiff, Nat.reduceLT, Nat.reduceLeDiff, Nat.reduceSub, Nat.reducePow, Nat.reduceBEq, Int.reduceToNat, List.reduceReplicate, ints_drop]
  repeat with_reducible refine cj ?_ ?_
  all_goals try first | omega
  refine hK4 _ _ _ ?_; clear hK4
  refine AW.block ?_
  refine AW.nilOwn 5 200 1 (by simp only [go_sem, reduceIte, Nat.reduceEqDiff]) ?_
  refine AW.keep [5, 10, 11, 12] [200] ?_
  simp only [go_sem, reduceIte, Nat.reduceEqDiff]
  have hpt : (pr.take n).length = n := by simp; omega
  -- loop 1
  refine AW.loopE (fun mm ee ss kk => ∃ (j g v : Nat), n - j = mm ∧ ee = [(5, .sl ⟨200, g, none⟩ 0 (memb pr j).length none), (10, .rsl 1 (ints (pr.take n))), (11, .int .i64 n), (12, .int .i64 (j : Nat))] ∧ ss = [(200, some ⟨g, v, 1, ints (memb pr j)⟩)] ∧ (j ≤ n)) ?_ ?_
  · refine ⟨_, 0, ?_, ?_, rfl, ?henv, ?hstore, ?hst⟩
    case henv =>
      repeat' (first | rfl | refine env_cons ?_ ?_ | refine st_cons ?_ ?_ ?_ ?_ | refine int_eq ?_ | refine bool_eq ?_ | refine rsl_eq ?_ | refine osl_eq ?_ | refine sl_eq ?_ ?_ ?_ | refine ptr_eq ?_ ?_ ?_ | refine agg_eq ?_ | refine es_cons ?_ ?_ | refine row_cons ?_ ?_)
      all_goals (first | (simp; done) | omega | (simp; omega))
    case hstore =>
      repeat' (first | rfl | refine env_cons ?_ ?_ | refine st_cons ?_ ?_ ?_ ?_ | refine int_eq ?_ | refine bool_eq ?_ | refine rsl_eq ?_ | refine osl_eq ?_ | refine sl_eq ?_ ?_ ?_ | refine ptr_eq ?_ ?_ ?_ | refine agg_eq ?_ | refine es_cons ?_ ?_ | refine row_cons ?_ ?_)
      all_goals (first | (simp; done) | omega | (simp; omega))
    case hst =>
      first | trivial | omega | (simp; done) | (simp; omega)
  rintro mm ee ss kk ⟨j, g, v, rfl, rfl, rfl, hI⟩
  generalize hQl1 : thenQ _ _ = Ql1
  refine AW.seq fun K5 hK5 => ?_
  -- region 3
  refine AW.regionK 0 (fun _ => none) [5, 10, 11, 12, 13] [200] ?_
  simp only [go_sem, reduceIte, reduceCtorEq, Nat.reduceAdd, Nat.reduceMul, Nat.reduceEqDiff, Nat.reduceLT, Nat.reduceLeDiff, Nat.reduceSub, Nat.reducePow, Nat.reduceBEq, Int.reduceToNat, List.reduceReplicate]
  repeat with_reducible refine cj ?_ ?_
  all_goals try first | omega
  refine hK5 _ _ _ ?_; clear hK5
  refine AW.seq fun K6 hK6 => ?_
  -- cond 1
  refine AW.cond rfl (by simp only [go_sem, reduceIte, reduceCtorEq, Nat.reduceAdd, Nat.reduceMul, Nat.reduceEqDiff, Nat.reduceLT, Nat.reduceLeDiff, Nat.reduceSub, Nat.reducePow, Nat.reduceBEq, Int.reduceToNat, List.reduceReplicate]) ?_ ?_
  · intro hb
    try simp only [hB, decide_eq_true_eq, decide_eq_false_iff_not] at hb
    have hgj := ints_getD (l := pr.take n) (i := j) (by omega)
    have hpj : (pr.take n).getD j 0 = pr.getD j 0 := by simp [List.getD_eq_getElem?_getD, List.getElem?_take, show j < n by omega]
    rw [hpj] at hgj
    have hms := memb_succ pr j
    have hml := memb_le pr j
    refine AW.skip ?_
    refine hK6 _ _ _ ?_; clear hK6
    refine AW.seq fun K7 hK7 => ?_
    refine AW.block ?_
    refine AW.seq fun K8 hK8 => ?_
    -- region 4
    refine AW.regionK 0 (fun _ => none) [5, 6, 7, 10, 11, 12] [200] ?_
    simp only [go_sem, reduceIte, reduceCtorEq, Nat.reduceAdd, Nat.reduceMul, Nat.reduceEqDiff, Nat.reduceLT, Nat.reduceLeDiff, Nat.reduceSub, Nat.reducePow, Nat.reduceBEq, Int.reduceToNat, List.reduceReplicate, hgj, hpt]
    repeat with_reducible refine cj ?_ ?_
    all_goals try first | omega
    refine hK8 _ _ _ ?_; clear hK8
    refine AW.seq fun K9 hK9 => ?_
    -- region 5
    refine AW.regionK 0 (fun _ => none) [5, 6, 10, 11, 12, 18] [200] ?_
    simp only [go_sem, reduceIte, reduceCtorEq, Nat.reduceAdd, Nat.reduceMul, Nat.reduceEqDiff, Nat.reduceLT, Nat.reduceLeDiff, Nat.reduceSub, Nat.reducePow, Nat.reduceBEq, Int.reduceToNat, List.reduceReplicate]
    repeat with_reducible refine cj ?_ ?_
    all_goals try first | omega
    refine hK9 _ _ _ ?_; clear hK9
    -- cond 2
    refine AW.cond rfl (by simp only [go_sem, reduceIte, reduceCtorEq, Nat.reduceAdd, Nat.reduceMul, Nat.reduceEqDiff, Nat.reduceLT, Nat.reduceLeDiff, Nat.reduceSub, Nat.reducePow, Nat.reduceBEq, Int.reduceToNat, List.reduceReplicate]) ?_ ?_
    · intro hb
      try simp only [hB, decide_eq_true_eq, decide_eq_false_iff_not] at hb
      rw [if_neg hb] at hms
      -- region 6
      refine AW.regionK 0 (fun _ => none) [5, 10, 11, 12] [200] ?_
      simp only [go_sem, reduceIte, reduceCtorEq, Nat.reduceAdd, Nat.reduceMul, Nat.reduceEqDiff, Nat.reduceLT, Nat.reduceLeDiff, Nat.reduceSub, Nat.reducePow, Nat.reduceBEq, Int.reduceToNat, List.reduceReplicate, ints_app]
      repeat with_reducible refine cj ?_ ?_
      all_goals try first | omega | (simp [scP, scalar]; done)
      refine hK7 _ _ _ ?_; clear hK7
      -- region 7
      refine AW.regionK 0 (fun _ => none) [5, 10, 11, 12] [200] ?_
      simp only [go_sem, reduceIte, reduceCtorEq, Nat.reduceAdd, Nat.reduceMul, Nat.reduceEqDiff, Nat.reduceLT, Nat.reduceLeDiff, Nat.reduceSub, Nat.reducePow, Nat.reduceBEq, Int.reduceToNat, List.reduceReplicate]
      repeat with_reducible refine cj ?_ ?_
      all_goals try first | omega
      rw [← hQl1]
      change Exists _
      refine ⟨_, ?hm, j + 1, ?_, ?_, rfl, ?henv, ?hstore, ?hst⟩
      case henv =>
        repeat' (first | rfl | refine env_cons ?_ ?_ | refine st_cons ?_ ?_ ?_ ?_ | refine int_eq ?_ | refine bool_eq ?_ | refine rsl_eq ?_ | refine osl_eq ?_ | refine sl_eq ?_ ?_ ?_ | refine ptr_eq ?_ ?_ ?_ | refine agg_eq ?_ | refine es_cons ?_ ?_ | refine row_cons ?_ ?_)
        all_goals (rw [hms]; try simp)
      case hstore =>
        repeat' (first | rfl | refine env_cons ?_ ?_ | refine st_cons ?_ ?_ ?_ ?_ | refine int_eq ?_ | refine bool_eq ?_ | refine rsl_eq ?_ | refine osl_eq ?_ | refine sl_eq ?_ ?_ ?_ | refine ptr_eq ?_ ?_ ?_ | refine agg_eq ?_ | refine es_cons ?_ ?_ | refine row_cons ?_ ?_)
        all_goals (rw [hms])
      case hst =>
        first | trivial | omega | (simp; done) | (simp; omega)
      case hm => omega
    · intro hb
      try simp only [hB, decide_eq_true_eq, decide_eq_false_iff_not] at hb
      rw [if_pos hb] at hms
      refine AW.skip ?_
      refine hK7 _ _ _ ?_; clear hK7
      -- region 7
      refine AW.regionK 0 (fun _ => none) [5, 10, 11, 12] [200] ?_
      simp only [go_sem, reduceIte, reduceCtorEq, Nat.reduceAdd, Nat.reduceMul, Nat.reduceEqDiff, Nat.reduceLT, Nat.reduceLeDiff, Nat.reduceSub, Nat.reducePow, Nat.reduceBEq, Int.reduceToNat, List.reduceReplicate]
      repeat with_reducible refine cj ?_ ?_
      all_goals try first | omega
      rw [← hQl1]
      change Exists _
      refine ⟨_, ?hm, j + 1, ?_, ?_, rfl, ?henv, ?hstore, ?hst⟩
      case henv =>
        repeat' (first | rfl | refine env_cons ?_ ?_ | refine st_cons ?_ ?_ ?_ ?_ | refine int_eq ?_ | refine bool_eq ?_ | refine rsl_eq ?_ | refine osl_eq ?_ | refine sl_eq ?_ ?_ ?_ | refine ptr_eq ?_ ?_ ?_ | refine agg_eq ?_ | refine es_cons ?_ ?_ | refine row_cons ?_ ?_)
        all_goals (rw [hms]; try simp)
      case hstore =>
        repeat' (first | rfl | refine env_cons ?_ ?_ | refine st_cons ?_ ?_ ?_ ?_ | refine int_eq ?_ | refine bool_eq ?_ | refine rsl_eq ?_ | refine osl_eq ?_ | refine sl_eq ?_ ?_ ?_ | refine ptr_eq ?_ ?_ ?_ | refine agg_eq ?_ | refine es_cons ?_ ?_ | refine row_cons ?_ ?_)
        all_goals (rw [hms])
      case hst =>
        first | trivial | omega | (simp; done) | (simp; omega)
      case hm => omega
  · intro hb
    try simp only [hB, decide_eq_true_eq, decide_eq_false_iff_not] at hb
    refine AW.exit ?_
    rw [← hQl1]
    refine hK3 _ _ _ ?_; clear hK3
    refine AW.seq fun K10 hK10 => ?_
    -- region 8
    refine AW.regionK 0 (fun _ => none) [4] [200] ?_
    simp only [go_sem, reduceIte, reduceCtorEq, Nat.reduceAdd, Nat.reduceMul, Nat.reduceEqDiff, Nat.reduceLT, Nat.reduceLeDiff, Nat.reduceSub, Nat.reducePow, Nat.reduceBEq, Int.reduceToNat, List.reduceReplicate]
    repeat with_reducible refine cj ?_ ?_
    all_goals try first | omega
    refine hK10 _ _ _ ?_; clear hK10
    refine AW.ret ?_
    rw [← hQr]
    simp only [go_sem, reduceIte, reduceCtorEq, Nat.reduceAdd, Nat.reduceMul, Nat.reduceEqDiff, Nat.reduceLT, Nat.reduceLeDiff, Nat.reduceSub, Nat.reducePow, Nat.reduceBEq, Int.reduceToNat, List.reduceReplicate]
    have hj : j = n := by omega
    subst hj
    exact Wk.refl _
theorem words_r (n : Int) (h0 : 0 ≤ n) (h1 : n ≤ 1000000) : Reads Try.prog 57 false [.int .i64 n] (.int .i64 (wordsN n)) := by
  have hw := wordsN_rng h0
  unfold wordsN at *
  refine Reads.body (rs := [.tmp 2]) Try.func57 rfl Try.ntmps57 rfl (by simp) ?_
  generalize hQr : retQ _ _ _ = Qr
  refine AW.seq fun K1 hK1 => ?_
  -- region 0
  refine AW.regionK 0 (fun _ => none) [0] [] ?_
  simp only [go_sem, reduceIte, reduceCtorEq, Nat.reduceAdd, Nat.reduceMul, Nat.reduceEqDiff, Nat.reduceLT, Nat.reduceLeDiff, Nat.reduceSub, Nat.reducePow, Nat.reduceBEq, Int.reduceToNat, List.reduceReplicate]
  repeat with_reducible refine cj ?_ ?_
  all_goals try first | omega
  refine hK1 _ _ _ ?_; clear hK1
  refine AW.seq fun K2 hK2 => ?_
  -- region 1
  refine AW.regionK 0 (fun _ => none) [2] [] ?_
  simp only [go_sem, reduceIte, reduceCtorEq, Nat.reduceAdd, Nat.reduceMul, Nat.reduceEqDiff, Nat.reduceLT, Nat.reduceLeDiff, Nat.reduceSub, Nat.reducePow, Nat.reduceBEq, Int.reduceToNat, List.reduceReplicate]
  repeat with_reducible refine cj ?_ ?_
  all_goals try first | omega
  refine hK2 _ _ _ ?_; clear hK2
  refine AW.ret ?_
  rw [← hQr]
  simp only [go_sem, reduceIte, reduceCtorEq, Nat.reduceAdd, Nat.reduceMul, Nat.reduceEqDiff, Nat.reduceLT, Nat.reduceLeDiff, Nat.reduceSub, Nat.reducePow, Nat.reduceBEq, Int.reduceToNat, List.reduceReplicate]
  exact Wk.refl _
theorem inside_r (N : Int) (W : List (List AV)) (i : Int) : Reads Try.prog 58 false [.agg [.int .i64 N, .rsl 1 W], .int .i64 i] (.bool (decide (0 ≤ i) && decide (i < N))) := by
  refine Reads.body (rs := [.tmp 4]) Try.func58 rfl Try.ntmps58 rfl (by simp) ?_
  generalize hQr : retQ _ _ _ = Qr
  refine AW.seq fun K1 hK1 => ?_
  -- region 0
  refine AW.regionK 0 (fun _ => none) [1, 2] [2] ?_
  simp only [go_sem, reduceIte, reduceCtorEq, Nat.reduceAdd, Nat.reduceMul, Nat.reduceEqDiff, Nat.reduceLT, Nat.reduceLeDiff, Nat.reduceSub, Nat.reducePow, Nat.reduceBEq, Int.reduceToNat, List.reduceReplicate]
  repeat with_reducible refine cj ?_ ?_
  all_goals try first | omega
  refine hK1 _ _ _ ?_; clear hK1
  refine AW.seq fun K2 hK2 => ?_
  -- region 1
  refine AW.regionK 0 (fun _ => none) [4] [] ?_
  simp only [go_sem, reduceIte, reduceCtorEq, Nat.reduceAdd, Nat.reduceMul, Nat.reduceEqDiff, Nat.reduceLT, Nat.reduceLeDiff, Nat.reduceSub, Nat.reducePow, Nat.reduceBEq, Int.reduceToNat, List.reduceReplicate]
  repeat with_reducible refine cj ?_ ?_
  all_goals try first | omega | (simp only [go_sem, reduceIte, reduceCtorEq, Nat.reduceAdd, Nat.reduceMul, Nat.reduceEqDiff, Nat.reduceLT, Nat.reduceLeDiff, Nat.reduceSub, Nat.reducePow, Nat.reduceBEq, Int.reduceToNat, List.reduceReplicate]; done) | (simp_all [go_sem]; done)
  refine hK2 _ _ _ ?_; clear hK2
  refine AW.ret ?_
  rw [← hQr]
  simp only [go_sem, reduceIte, reduceCtorEq, Nat.reduceAdd, Nat.reduceMul, Nat.reduceEqDiff, Nat.reduceLT, Nat.reduceLeDiff, Nat.reduceSub, Nat.reducePow, Nat.reduceBEq, Int.reduceToNat, List.reduceReplicate]
  exact Wk.refl _
theorem of_err (n : Int) (l : List Int) (hn : n < 0 ∨ 512 < n) : Reads Try.prog 43 false [.int .i64 n, .rsl 1 (ints l)] (.tup [.agg [.int .i64 0, .nilsl], .int .i64 2]) := by
  refine Reads.body (rs := [.cell 4 37, .tmp 5]) Try.func43 rfl Try.ntmps43 rfl (by simp) ?_
  generalize hQr : retQ _ _ _ = Qr
  refine AW.seq fun K1 hK1 => ?_
  -- region 0
  refine AW.regionK 0 (fun _ => none) [0, 1, 4] [4] ?_
  simp only [go_sem, reduceIte, reduceCtorEq, Nat.reduceAdd, Nat.reduceMul, Nat.reduceEqDiff, Nat.reduceLT, Nat.reduceLeDiff, Nat.reduceSub, Nat.reducePow, Nat.reduceBEq, Int.reduceToNat, List.reduceReplicate]
  repeat with_reducible refine cj ?_ ?_
  all_goals try first | omega
  refine hK1 _ _ _ ?_; clear hK1
  refine AW.seq fun K2 hK2 => ?_
  refine AW.seq fun K3 hK3 => ?_
  -- region 1
  refine AW.regionK 0 (fun _ => none) [0, 1, 4, 14] [4] ?_
  simp only [go_sem, reduceIte, reduceCtorEq, Nat.reduceAdd, Nat.reduceMul, Nat.reduceEqDiff, Nat.reduceLT, Nat.reduceLeDiff, Nat.reduceSub, Nat.reducePow, Nat.reduceBEq, Int.reduceToNat, List.reduceReplicate]
  repeat with_reducible refine cj ?_ ?_
  all_goals try first | omega | (simp only [go_sem, reduceIte, reduceCtorEq, Nat.reduceAdd, Nat.reduceMul, Nat.reduceEqDiff, Nat.reduceLT, Nat.reduceLeDiff, Nat.reduceSub, Nat.reducePow, Nat.reduceBEq, Int.reduceToNat, List.reduceReplicate]; done) | (simp_all [go_sem]; done)
  refine hK3 _ _ _ ?_; clear hK3
  -- cond 1
  refine AW.cond rfl (by simp only [go_sem, reduceIte, reduceCtorEq, Nat.reduceAdd, Nat.reduceMul, Nat.reduceEqDiff, Nat.reduceLT, Nat.reduceLeDiff, Nat.reduceSub, Nat.reducePow, Nat.reduceBEq, Int.reduceToNat, List.reduceReplicate]) ?_ ?_
  · intro hb
    try simp only [hB, decide_eq_true_eq, decide_eq_false_iff_not] at hb
    refine AW.seq fun K4 hK4 => ?_
    -- region 2
    refine AW.regionK 0 (fun _ => none) [4, 5] [4] ?_
    simp only [go_sem, reduceIte, reduceCtorEq, Nat.reduceAdd, Nat.reduceMul, Nat.reduceEqDiff, Nat.reduceLT, Nat.reduceLeDiff, Nat.reduceSub, Nat.reducePow, Nat.reduceBEq, Int.reduceToNat, List.reduceReplicate]
    repeat with_reducible refine cj ?_ ?_
    all_goals try first | omega
    refine hK4 _ _ _ ?_; clear hK4
    refine AW.ret ?_
    rw [← hQr]
    simp only [go_sem, reduceIte, reduceCtorEq, Nat.reduceAdd, Nat.reduceMul, Nat.reduceEqDiff, Nat.reduceLT, Nat.reduceLeDiff, Nat.reduceSub, Nat.reducePow, Nat.reduceBEq, Int.reduceToNat, List.reduceReplicate]
    exact Wk.refl _
  · intro hb
    try simp only [hB, decide_eq_true_eq, decide_eq_false_iff_not] at hb
    exfalso; omega
theorem of_r (n : Int) (l : List Int) (h0 : 0 ≤ n) (h1 : n ≤ 512) (hl : l.length ≤ 9223372036854775807) (hr : ∀ i ∈ l, 0 ≤ i ∧ i < n) :
    Reads Try.prog 43 true [.int .i64 n, .rsl 1 (ints l)] (.tup [.agg [.int .i64 n, .rsl 1 (words (ofW n l))], .int .i64 0]) := by
  have hwr := words_r n h0 (by omega)
  have hwn := wordsN_rng h0
  refine Reads.bodyF (rs := [.cell 4 37, .tmp 5]) Try.func43 rfl Try.ntmps43 rfl (by simp) ?_
  generalize hQr : retQ _ _ _ = Qr
  refine AW.seq fun K1 hK1 => ?_
  -- region 0
  refine AW.regionK 0 (fun _ => none) [0, 1, 4] [4] ?_
  simp only [go_sem, reduceIte, reduceCtorEq, Nat.reduceAdd, Nat.reduceMul, Nat.reduceEqDiff, Nat.reduceLT, Nat.reduceLeDiff, Nat.reduceSub, Nat.reducePow, Nat.reduceBEq, Int.reduceToNat, List.reduceReplicate]
  repeat with_reducible refine cj ?_ ?_
  all_goals try first | omega
  refine hK1 _ _ _ ?_; clear hK1
  refine AW.seq fun K2 hK2 => ?_
  refine AW.seq fun K3 hK3 => ?_
  -- region 1
  refine AW.regionK 0 (fun _ => none) [0, 1, 4, 14] [4] ?_
  simp only [go_sem, reduceIte, reduceCtorEq, Nat.reduceAdd, Nat.reduceMul, Nat.reduceEqDiff, Nat.reduceLT, Nat.reduceLeDiff, Nat.reduceSub, Nat.reducePow, Nat.reduceBEq, Int.reduceToNat, List.reduceReplicate]
  repeat with_reducible refine cj ?_ ?_
  all_goals try first | omega | (simp only [go_sem, reduceIte, reduceCtorEq, Nat.reduceAdd, Nat.reduceMul, Nat.reduceEqDiff, Nat.reduceLT, Nat.reduceLeDiff, Nat.reduceSub, Nat.reducePow, Nat.reduceBEq, Int.reduceToNat, List.reduceReplicate]; done) | (simp_all [go_sem]; done)
  refine hK3 _ _ _ ?_; clear hK3
  -- cond 1
  refine AW.cond rfl (by simp only [go_sem, reduceIte, reduceCtorEq, Nat.reduceAdd, Nat.reduceMul, Nat.reduceEqDiff, Nat.reduceLT, Nat.reduceLeDiff, Nat.reduceSub, Nat.reducePow, Nat.reduceBEq, Int.reduceToNat, List.reduceReplicate]) ?_ ?_
  · intro hb
    try simp only [hB, decide_eq_true_eq, decide_eq_false_iff_not] at hb
    exfalso; omega
  · intro hb
    try simp only [hB, decide_eq_true_eq, decide_eq_false_iff_not] at hb
    refine AW.skip ?_
    refine hK2 _ _ _ ?_; clear hK2
    refine AW.seq fun K4 hK4 => ?_
    -- region 3
    refine AW.regionK 0 (fun i => if i = 2 then some (.reads false (.int .i64 (wordsN n))) else none) [1, 4, 6] [4, 6, 19] ?_
    simp only [go_sem, reduceIte, reduceCtorEq, Nat.reduceAdd, Nat.reduceMul, Nat.reduceEqDiff, Nat.reduceLT, Nat.reduceLeDiff, Nat.reduceSub, Nat.reducePow, Nat.reduceBEq, Int.reduceToNat, List.reduceReplicate]
    repeat with_reducible refine cj ?_ ?_
    all_goals try first | omega | exact ent (by kernel_rfl)
    refine hK4 _ _ _ ?_; clear hK4
    refine AW.seq fun K5 hK5 => ?_
    refine AW.seq fun K6 hK6 => ?_
    -- region 4
    refine AW.regionK 0 (fun _ => none) [4, 6, 21, 22, 23] [4, 6, 19] ?_
    simp only [go_sem, reduceIte, reduceCtorEq, Nat.reduceAdd, Nat.reduceMul, Nat.reduceEqDiff, Nat.reduceLT, Nat.reduceLeDiff, Nat.reduceSub, Nat.reducePow, Nat.reduceBEq, Int.reduceToNat, List.reduceReplicate]
    repeat with_reducible refine cj ?_ ?_
    all_goals try first | omega
    refine hK6 _ _ _ ?_; clear hK6
    refine AW.block ?_
    -- loop 1
    refine AW.loopE (fun mm ee ss kk => ∃ (j g4 v4 g v gw vw : Nat) (c4 : List AV), l.length - j = mm ∧ ee = [(4, .ptr ⟨4, g4, none⟩ 0 0), (6, .ptr ⟨6, g, none⟩ 0 0), (21, .rsl 1 (ints l)), (22, .int .i64 l.length), (23, .int .i64 (j : Nat))] ∧ ss = [(4, some ⟨g4, v4, 2, [[.int .i64 0, .nilsl]]⟩), (6, some ⟨g, v, 2, [[.int .i64 n, .sl ⟨19, gw, none⟩ 0 (wordsN n).toNat none]]⟩), (19, some ⟨gw, vw, 1, words (ofW n (l.take j))⟩)] ∧ (j ≤ l.length)) ?_ ?_
    · refine ⟨_, 0, ?_, ?_, ?_, ?_, ?_, ?_, [], rfl, ?henv, ?hstore, ?hst⟩
      case henv =>
        repeat' (first | rfl | refine env_cons ?_ ?_ | refine st_cons ?_ ?_ ?_ ?_ | refine int_eq ?_ | refine bool_eq ?_ | refine rsl_eq ?_ | refine osl_eq ?_ | refine sl_eq ?_ ?_ ?_ | refine ptr_eq ?_ ?_ ?_ | refine agg_eq ?_ | refine es_cons ?_ ?_ | refine row_cons ?_ ?_)
        all_goals (first | (simp; done) | omega | (simp; omega))
      case hstore =>
        repeat' (first | rfl | refine env_cons ?_ ?_ | refine st_cons ?_ ?_ ?_ ?_ | refine int_eq ?_ | refine bool_eq ?_ | refine rsl_eq ?_ | refine osl_eq ?_ | refine sl_eq ?_ ?_ ?_ | refine ptr_eq ?_ ?_ ?_ | refine agg_eq ?_ | refine es_cons ?_ ?_ | refine row_cons ?_ ?_)
        all_goals simp [ofW, words]
      case hst =>
        first | trivial | omega | (simp; done) | (simp; omega)
    rintro mm ee ss kk ⟨j, g4, v4, g, v, gw, vw, c4, rfl, rfl, rfl, hI⟩
    generalize hQl1 : thenQ _ _ = Ql1
    refine AW.seq fun K7 hK7 => ?_
    -- region 5
    refine AW.regionK 0 (fun _ => none) [4, 6, 21, 22, 23, 24] [4, 6, 19] ?_
    simp only [go_sem, reduceIte, reduceCtorEq, Nat.reduceAdd, Nat.reduceMul, Nat.reduceEqDiff, Nat.reduceLT, Nat.reduceLeDiff, Nat.reduceSub, Nat.reducePow, Nat.reduceBEq, Int.reduceToNat, List.reduceReplicate]
    repeat with_reducible refine cj ?_ ?_
    all_goals try first | omega
    refine hK7 _ _ _ ?_; clear hK7
    refine AW.seq fun K8 hK8 => ?_
    -- cond 2
    refine AW.cond rfl (by simp only [go_sem, reduceIte, reduceCtorEq, Nat.reduceAdd, Nat.reduceMul, Nat.reduceEqDiff, Nat.reduceLT, Nat.reduceLeDiff, Nat.reduceSub, Nat.reducePow, Nat.reduceBEq, Int.reduceToNat, List.reduceReplicate]) ?_ ?_
    · intro hb
      try simp only [hB, decide_eq_true_eq, decide_eq_false_iff_not] at hb
      obtain ⟨x, hx⟩ := getI (l := l) (j := j) (by omega)
      have hgx := ints_get hx
      have hxr := hr x (List.mem_of_getElem? hx)
      have hwl := ofW_len n (l.take j)
      have hd := div64_rng hxr.1 hxr.2
      have hgw := words_getD (l := ofW n (l.take j)) (i := (x.tdiv 64).toNat) (by omega)
      have hsu := ofW_succ (n := n) hx
      have hin := inside_r n (words (ofW n (l.take j))) x
      have hwt : (words (ofW n (l.take j))).take (wordsN n).toNat = words (ofW n (l.take j)) := by rw [words_take, List.take_of_length_le (by omega)]
      refine AW.skip ?_
      refine hK8 _ _ _ ?_; clear hK8
      refine AW.seq fun K9 hK9 => ?_
      refine AW.block ?_
      refine AW.seq fun K10 hK10 => ?_
      -- region 6
      refine AW.regionK 0 (fun _ => none) [4, 6, 8, 21, 22, 23] [4, 6, 19] ?_
      simp only [go_sem, reduceIte, reduceCtorEq, Nat.reduceAdd, Nat.reduceMul, Nat.reduceEqDiff, Nat.reduceLT, Nat.reduceLeDiff, Nat.reduceSub, Nat.reducePow, Nat.reduceBEq, Int.reduceToNat, List.reduceReplicate, hgx]
      repeat with_reducible refine cj ?_ ?_
      all_goals try first | omega
      refine hK10 _ _ _ ?_; clear hK10
      refine AW.seq fun K11 hK11 => ?_
      refine AW.seq fun K12 hK12 => ?_
      -- region 7
      refine AW.regionK 0 (fun i => if i = 2 then some (.reads true (.bool (decide (0 ≤ x) && decide (x < n)))) else none) [4, 6, 8, 21, 22, 23, 30] [4, 6, 19] ?_
      simp only [go_sem, reduceIte, reduceCtorEq, Nat.reduceAdd, Nat.reduceMul, Nat.reduceEqDiff, Nat.reduceLT, Nat.reduceLeDiff, Nat.reduceSub, Nat.reducePow, Nat.reduceBEq, Int.reduceToNat, List.reduceReplicate, hwt]
      repeat with_reducible refine cj ?_ ?_
      all_goals try first | (exact Reads.flat hin rfl) | omega | exact ent (by kernel_rfl)
      refine hK12 _ _ _ ?_; clear hK12
      -- cond 3
      refine AW.cond rfl (by simp only [go_sem, reduceIte, reduceCtorEq, Nat.reduceAdd, Nat.reduceMul, Nat.reduceEqDiff, Nat.reduceLT, Nat.reduceLeDiff, Nat.reduceSub, Nat.reducePow, Nat.reduceBEq, Int.reduceToNat, List.reduceReplicate]) ?_ ?_
      · intro hb
        try simp only [hB, decide_eq_true_eq, decide_eq_false_iff_not] at hb
        exfalso; omega
      · intro hb
        try simp only [hB, decide_eq_true_eq, decide_eq_false_iff_not] at hb
        refine AW.skip ?_
        refine hK11 _ _ _ ?_; clear hK11
        -- region 9
        refine AW.regionD mixed 0 (fun _ => none) [4, 6, 21, 22, 23] [4, 6, 19] ?_
        simp only [go_sem, reduceIte, reduceCtorEq, Nat.reduceAdd, Nat.reduceMul, Nat.reduceEqDiff, Nat.reduceLT, Nat.reduceLeDiff, Nat.reduceSub, Nat.reducePow, Nat.reduceBEq, Int.reduceToNat, List.reduceReplicate, hgw, hwl]
        repeat with_reducible refine cj ?_ ?_
        all_goals try first | omega | exact chk (by kernel_rfl)
        refine hK9 _ _ _ ?_; clear hK9
        -- region 10
        refine AW.regionK 0 (fun _ => none) [4, 6, 21, 22, 23] [4, 6, 19] ?_
        simp only [go_sem, reduceIte, reduceCtorEq, Nat.reduceAdd, Nat.reduceMul, Nat.reduceEqDiff, Nat.reduceLT, Nat.reduceLeDiff, Nat.reduceSub, Nat.reducePow, Nat.reduceBEq, Int.reduceToNat, List.reduceReplicate]
        repeat with_reducible refine cj ?_ ?_
        all_goals try first | omega
        rw [← hQl1]
        change Exists _
        refine ⟨_, ?hm, j + 1, ?_, ?_, ?_, ?_, ?_, ?_, [], rfl, ?henv, ?hstore, ?hst⟩
        case henv =>
          repeat' (first | rfl | refine env_cons ?_ ?_ | refine st_cons ?_ ?_ ?_ ?_ | refine int_eq ?_ | refine bool_eq ?_ | refine rsl_eq ?_ | refine osl_eq ?_ | refine sl_eq ?_ ?_ ?_ | refine ptr_eq ?_ ?_ ?_ | refine agg_eq ?_ | refine es_cons ?_ ?_ | refine row_cons ?_ ?_)
          all_goals (first | (simp; done) | omega | (simp; omega))
        case hstore =>
          repeat' (first | rfl | refine env_cons ?_ ?_ | refine st_cons ?_ ?_ ?_ ?_ | refine int_eq ?_ | refine bool_eq ?_ | refine rsl_eq ?_ | refine osl_eq ?_ | refine sl_eq ?_ ?_ ?_ | refine ptr_eq ?_ ?_ ?_ | refine agg_eq ?_ | refine es_cons ?_ ?_ | refine row_cons ?_ ?_)
          all_goals (rw [hsu]; simp [setBit])
        case hst =>
          first | trivial | omega | (simp; done) | (simp; omega)
        case hm => omega
    · intro hb
      try simp only [hB, decide_eq_true_eq, decide_eq_false_iff_not] at hb
      refine AW.keep [4, 6] [4, 6, 19] ?_
      try simp only [go_sem, reduceIte, reduceCtorEq, Nat.reduceAdd, Nat.reduceMul, Nat.reduceEqDiff, Nat.reduceLT, Nat.reduceLeDiff, Nat.reduceSub, Nat.reducePow, Nat.reduceBEq, Int.reduceToNat, List.reduceReplicate]
      refine AW.exit ?_
      rw [← hQl1]
      refine hK5 _ _ _ ?_; clear hK5
      refine AW.seq fun K13 hK13 => ?_
      -- region 11
      refine AW.regionK 0 (fun _ => none) [4, 5] [4, 19] ?_
      simp only [go_sem, reduceIte, reduceCtorEq, Nat.reduceAdd, Nat.reduceMul, Nat.reduceEqDiff, Nat.reduceLT, Nat.reduceLeDiff, Nat.reduceSub, Nat.reducePow, Nat.reduceBEq, Int.reduceToNat, List.reduceReplicate]
      repeat with_reducible refine cj ?_ ?_
      all_goals try first | omega
      refine hK13 _ _ _ ?_; clear hK13
      refine AW.ret ?_
      rw [← hQr]
      simp only [go_sem, reduceIte, reduceCtorEq, Nat.reduceAdd, Nat.reduceMul, Nat.reduceEqDiff, Nat.reduceLT, Nat.reduceLeDiff, Nat.reduceSub, Nat.reducePow, Nat.reduceBEq, Int.reduceToNat, List.reduceReplicate]
      rw [List.take_of_length_le (by rw [ofW_len]; exact Nat.le_refl _), List.take_of_length_le (l := l) (by omega)]
      exact Wk.refl _
end Go.Proofs.F
namespace Go.Proofs.F
open Go.AM Go
set_option maxRecDepth 100000
set_option maxHeartbeats 1000000
theorem cut_err (n : Net) (s t : Int) (hlen : n.E.length ≤ 9223372036854775807) (hc : checkC n s t ≠ 0) : Reads Try.prog 18 false [netV n, .int .i64 s, .int .i64 t] (.tup [.agg [.int .i64 0, .rsl 1 []], .int .i64 0, .int .i64 (checkC n s t)]) := by
  have hck := check_r n s t hlen
  unfold netV at *
  refine Reads.body (rs := [.cell 6 37, .tmp 7, .tmp 8]) Try.func18 rfl Try.ntmps18 rfl (by simp) ?_
  generalize hQr : retQ _ _ _ = Qr
  refine AW.seq fun K1 hK1 => ?_
  -- region 0
  refine AW.regionK 0 (fun _ => none) [1, 2, 3, 6] [3, 6] ?_
  simp only [go_sem, reduceIte, reduceCtorEq, Nat.reduceAdd, Nat.reduceMul, Nat.reduceEqDiff, Nat.reduceLT, Nat.reduceLeDiff, Nat.reduceSub, Nat.reducePow, Nat.reduceBEq, Int.reduceToNat, List.reduceReplicate]
  repeat with_reducible refine cj ?_ ?_
  all_goals try first | omega
  refine hK1 _ _ _ ?_; clear hK1
  refine AW.seq fun K2 hK2 => ?_
  refine AW.seq fun K3 hK3 => ?_
  -- region 1
  refine AW.regionK 0 (fun i => if i = 3 then some (.reads false (.int .i64 (checkC n s t))) else none) [1, 2, 3, 6, 9] [3, 6] ?_
  simp only [go_sem, reduceIte, reduceCtorEq, Nat.reduceAdd, Nat.reduceMul, Nat.reduceEqDiff, Nat.reduceLT, Nat.reduceLeDiff, Nat.reduceSub, Nat.reducePow, Nat.reduceBEq, Int.reduceToNat, List.reduceReplicate]
  repeat with_reducible refine cj ?_ ?_
  all_goals try first | omega | exact ent (by kernel_rfl)
  refine hK3 _ _ _ ?_; clear hK3
  refine AW.seq fun K4 hK4 => ?_
  -- region 2
  refine AW.regionK 0 (fun _ => none) [1, 2, 3, 6, 9, 16] [3, 6] ?_
  simp only [go_sem, reduceIte, reduceCtorEq, Nat.reduceAdd, Nat.reduceMul, Nat.reduceEqDiff, Nat.reduceLT, Nat.reduceLeDiff, Nat.reduceSub, Nat.reducePow, Nat.reduceBEq, Int.reduceToNat, List.reduceReplicate]
  repeat with_reducible refine cj ?_ ?_
  all_goals try first | omega
  refine hK4 _ _ _ ?_; clear hK4
  -- cond 1
  refine AW.cond rfl (by simp only [go_sem, reduceIte, reduceCtorEq, Nat.reduceAdd, Nat.reduceMul, Nat.reduceEqDiff, Nat.reduceLT, Nat.reduceLeDiff, Nat.reduceSub, Nat.reducePow, Nat.reduceBEq, Int.reduceToNat, List.reduceReplicate]) ?_ ?_
  · intro hb
    try simp only [hB, decide_eq_true_eq, decide_eq_false_iff_not] at hb
    refine AW.seq fun K5 hK5 => ?_
    -- region 3
    refine AW.regionK 0 (fun _ => none) [6, 7, 8] [6] ?_
    simp only [go_sem, reduceIte, reduceCtorEq, Nat.reduceAdd, Nat.reduceMul, Nat.reduceEqDiff, Nat.reduceLT, Nat.reduceLeDiff, Nat.reduceSub, Nat.reducePow, Nat.reduceBEq, Int.reduceToNat, List.reduceReplicate]
    repeat with_reducible refine cj ?_ ?_
    all_goals try first | omega
    refine hK5 _ _ _ ?_; clear hK5
    refine AW.ret ?_
    rw [← hQr]
    simp only [go_sem, reduceIte, reduceCtorEq, Nat.reduceAdd, Nat.reduceMul, Nat.reduceEqDiff, Nat.reduceLT, Nat.reduceLeDiff, Nat.reduceSub, Nat.reducePow, Nat.reduceBEq, Int.reduceToNat, List.reduceReplicate]
    exact Wk.tup3 (Wk.agg2 (Wk.refl _) (Wk.nil 1)) (Wk.refl _) (Wk.refl _)
  · intro hb
    try simp only [hB, decide_eq_true_eq, decide_eq_false_iff_not] at hb
    exfalso; simp at hb; omega
theorem memb_rng (l : List Int) (m : Nat) : ∀ i ∈ memb l m, 0 ≤ i ∧ i < m := by
  intro i hi
  simp only [memb, List.mem_map, List.mem_filter, List.mem_range] at hi
  obtain ⟨a, ⟨h1, _⟩, rfl⟩ := hi
  omega
theorem cut_r (n : Net) (s t : Int) (hv : validB n = true) (hst : endsB n s t = true) (Inv : List Arc → Int → Prop) (hok : FillOk (openP n).2 n.N.toNat s t Inv) (hI : Inv (openP n).1 0) (F : Nat)
    (A' : List Arc) (v' : Int) (pr' : List Int) (hf : fillP (openP n).2 s t F (openP n).1 0 = some (A', v', pr')) (hpl : pr'.length = n.N.toNat) :
    Reads Try.prog 18 false [netV n, .int .i64 s, .int .i64 t] (.tup [.agg [.int .i64 n.N, .rsl 1 (words (ofW n.N (memb pr' n.N.toNat)))], .int .i64 v', .int .i64 0]) := by
  obtain ⟨hN1, hN2, hE⟩ := valid_size hv
  have hck := check_r n s t (by omega)
  have hc0 : checkC n s t = 0 := by simp [checkC, hv, hst]
  have hends : 0 ≤ s ∧ s < n.N ∧ 0 ≤ t ∧ t < n.N := by simp [endsB] at hst; omega
  rw [hc0] at hck
  have hop := open_u n hv
  have hm := (members_r pr' n.N.toNat (by omega) (by omega)).old
  rw [Int.toNat_of_nonneg (by omega)] at hm
  have hof := (of_r n.N (memb pr' n.N.toNat) (by omega) (by omega) (by have := memb_le pr' n.N.toNat; omega) (by have := memb_rng pr' n.N.toNat; intro i hi; have := this i hi; omega)).old
  unfold netV at *
  refine Reads.body (rs := [.cell 6 37, .tmp 7, .tmp 8]) Try.func18 rfl Try.ntmps18 rfl (by simp) ?_
  generalize hQr : retQ _ _ _ = Qr
  refine AW.seq fun K1 hK1 => ?_
  -- region 0
  refine AW.regionK 0 (fun _ => none) [1, 2, 3, 6] [3, 6] ?_
  simp only [go_sem, reduceIte, reduceCtorEq, Nat.reduceAdd, Nat.reduceMul, Nat.reduceEqDiff, Nat.reduceLT, Nat.reduceLeDiff, Nat.reduceSub, Nat.reducePow, Nat.reduceBEq, Int.reduceToNat, List.reduceReplicate, ren_arcs, renC_leave]
  repeat with_reducible refine cj ?_ ?_
  all_goals try first | omega
  refine hK1 _ _ _ ?_; clear hK1
  refine AW.seq fun K2 hK2 => ?_
  refine AW.seq fun K3 hK3 => ?_
  -- region 1
  refine AW.regionK 0 (fun i => if i = 3 then some (.reads false (.int .i64 ((0 : Nat) : Int))) else none) [1, 2, 3, 6, 9] [3, 6] ?_
  simp only [go_sem, reduceIte, reduceCtorEq, Nat.reduceAdd, Nat.reduceMul, Nat.reduceEqDiff, Nat.reduceLT, Nat.reduceLeDiff, Nat.reduceSub, Nat.reducePow, Nat.reduceBEq, Int.reduceToNat, List.reduceReplicate, ren_arcs, renC_leave]
  repeat with_reducible refine cj ?_ ?_
  all_goals try first | omega | exact ent (by kernel_rfl)
  refine hK3 _ _ _ ?_; clear hK3
  refine AW.seq fun K4 hK4 => ?_
  -- region 2
  refine AW.regionK 0 (fun _ => none) [1, 2, 3, 6, 9, 16] [3, 6] ?_
  simp only [go_sem, reduceIte, reduceCtorEq, Nat.reduceAdd, Nat.reduceMul, Nat.reduceEqDiff, Nat.reduceLT, Nat.reduceLeDiff, Nat.reduceSub, Nat.reducePow, Nat.reduceBEq, Int.reduceToNat, List.reduceReplicate, ren_arcs, renC_leave]
  repeat with_reducible refine cj ?_ ?_
  all_goals try first | omega
  refine hK4 _ _ _ ?_; clear hK4
  -- cond 1
  refine AW.cond rfl (by simp only [go_sem, reduceIte, reduceCtorEq, Nat.reduceAdd, Nat.reduceMul, Nat.reduceEqDiff, Nat.reduceLT, Nat.reduceLeDiff, Nat.reduceSub, Nat.reducePow, Nat.reduceBEq, Int.reduceToNat, List.reduceReplicate]) ?_ ?_
  · intro hb
    try simp only [hB, decide_eq_true_eq, decide_eq_false_iff_not] at hb
    exfalso; simp at hb
  · intro hb
    try simp only [hB, decide_eq_true_eq, decide_eq_false_iff_not] at hb
    refine AW.skip ?_
    refine hK2 _ _ _ ?_; clear hK2
    refine AW.seq fun K5 hK5 => ?_
    -- region 4
    refine AW.regionK 0 (fun i => if i = 1 then some (.upd [] (fun k => [(0, some ⟨k, k, 2, [[.osl 2 ((openP n).1.map arcV), .sl ⟨1, k, none⟩ 0 n.N.toNat none]]⟩), (1, some ⟨k, k, 1, leaveV (openP n).2⟩)]) (fun k => .ptr ⟨0, k, none⟩ 0 0)) else if i = 4 then some (.upd [21, 1021] (fun k => [(0, some ⟨24, k, 2, [[.osl 2 (A'.map arcV), .sl ⟨1, 24, none⟩ 0 n.N.toNat none]]⟩), (1, some ⟨24, k, 1, leaveV (openP n).2⟩)]) (fun _ => .tup [.int .i64 v', .rsl 1 (ints pr')])) else none) [3, 6, 7, 10] [3, 6] ?_
    simp only [go_sem, reduceIte, reduceCtorEq, Nat.reduceAdd, Nat.reduceMul, Nat.reduceEqDiff, Nat.reduceLT, Nat.reduceLeDiff, Nat.reduceSub, Nat.reducePow, Nat.reduceBEq, Int.reduceToNat, List.reduceReplicate, ren_arcs, renC_leave]
    repeat with_reducible refine cj ?_ ?_
    all_goals try first | (first | exact hop | exact fill_u (openP n).1 (openP n).2 n.N.toNat s t _ _ _ _ F (by omega) (by omega) (by omega) (by omega) Inv hok hI A' v' pr' hf) | omega | exact ent (by kernel_rfl)
    refine hK5 _ _ _ ?_; clear hK5
    refine AW.seq fun K6 hK6 => ?_
    -- region 5
    refine AW.regionD mixed 0 (fun i => if i = 5 then some (.reads false (.rsl 1 (ints (memb pr' n.N.toNat)))) else if i = 6 then some (.reads false (.tup [.agg [.int .i64 n.N, .rsl 1 (words (ofW n.N (memb pr' n.N.toNat)))], .int .i64 0])) else none) [6, 7, 8] [6] ?_
    simp only [go_sem, reduceIte, reduceCtorEq, Nat.reduceAdd, Nat.reduceMul, Nat.reduceEqDiff, Nat.reduceLT, Nat.reduceLeDiff, Nat.reduceSub, Nat.reducePow, Nat.reduceBEq, Int.reduceToNat, List.reduceReplicate, ren_arcs, renC_leave]
    repeat with_reducible refine cj ?_ ?_
    all_goals try first | omega | exact chk (by kernel_rfl) | exact ent (by kernel_rfl)
    refine hK6 _ _ _ ?_; clear hK6
    refine AW.seq fun K7 hK7 => ?_
    -- region 6
    refine AW.regionK 0 (fun _ => none) [6, 7, 8] [6] ?_
    simp only [go_sem, reduceIte, reduceCtorEq, Nat.reduceAdd, Nat.reduceMul, Nat.reduceEqDiff, Nat.reduceLT, Nat.reduceLeDiff, Nat.reduceSub, Nat.reducePow, Nat.reduceBEq, Int.reduceToNat, List.reduceReplicate, ren_arcs, renC_leave]
    repeat with_reducible refine cj ?_ ?_
    all_goals try first | omega
    refine hK7 _ _ _ ?_; clear hK7
    refine AW.ret ?_
    rw [← hQr]
    simp only [go_sem, reduceIte, reduceCtorEq, Nat.reduceAdd, Nat.reduceMul, Nat.reduceEqDiff, Nat.reduceLT, Nat.reduceLeDiff, Nat.reduceSub, Nat.reducePow, Nat.reduceBEq, Int.reduceToNat, List.reduceReplicate, ren_arcs, renC_leave]
    exact Wk.refl _
end Go.Proofs.F
/- The network of a closure problem. -/
namespace Go.AM
def pairV (p : Int × Int) : List AV := [.int .i64 p.1, .int .i64 p.2]
def wEdge (n i w : Int) : List Edg := if 0 < w then [⟨n, i, w⟩] else if w < 0 then [⟨i, n + 1, 0 - w⟩] else []
def wEdges (ws : List Int) (j : Nat) : List Edg := (List.range j).flatMap fun (i : Nat) => wEdge ws.length i (ws.getD i 0)
def nEdge (p : Int × Int) : List Edg := if p.1 = p.2 then [] else [⟨p.1, p.2, 1125899906842624⟩]
def nEdges (ns : List (Int × Int)) : List Edg := ns.flatMap nEdge
def cNet (ws : List Int) (ns : List (Int × Int)) : Net := ⟨ws.length + 2, wEdges ws ws.length ++ nEdges ns⟩
theorem wEdges_succ (ws : List Int) (j : Nat) : wEdges ws (j + 1) = wEdges ws j ++ wEdge ws.length j (ws.getD j 0) := by
  unfold wEdges; rw [List.range_succ, List.flatMap_append]; simp only [List.flatMap_cons, List.flatMap_nil, List.append_nil]
theorem wEdges_len (ws : List Int) (j : Nat) : (wEdges ws j).length ≤ j := by
  induction j with
  | zero => simp [wEdges]
  | succ j ih =>
    rw [wEdges_succ, List.length_append]
    have : (wEdge ws.length j (ws.getD j 0)).length ≤ 1 := by unfold wEdge; split <;> (try split) <;> simp
    omega
theorem nEdges_succ {ns : List (Int × Int)} {j : Nat} {p : Int × Int} (h : ns[j]? = some p) : nEdges (ns.take (j + 1)) = nEdges (ns.take j) ++ nEdge p := by
  obtain ⟨hj, rfl⟩ := List.getElem?_eq_some_iff.1 h
  unfold nEdges; rw [List.take_succ_eq_append_getElem hj, List.flatMap_append]; simp only [List.flatMap_cons, List.flatMap_nil, List.append_nil]
theorem nEdges_len (ns : List (Int × Int)) : (nEdges ns).length ≤ ns.length := by
  induction ns with
  | nil => simp [nEdges]
  | cons p ns ih =>
    have : (nEdge p).length ≤ 1 := by unfold nEdge; split <;> simp
    simp only [nEdges, List.flatMap_cons, List.length_append, List.length_cons] at ih ⊢
    omega
theorem edges_take (l : List Edg) : (l.map edgeV).take l.length = l.map edgeV := List.take_of_length_le (by simp)
theorem edges_app (l : List Edg) (a b c : Int) : l.map edgeV ++ [[.int .i64 a, .int .i64 b, .int .i64 c]] = (l ++ [(⟨a, b, c⟩ : Edg)]).map edgeV := by simp [edgeV]
theorem noOsl_edges (l : List Edg) : noOsl (l.map edgeV) := noOsl_map (fun x i sz q e => by
  rcases i with _ | _ | _ | i <;> simp [edgeV] at e) l
theorem vwc_edges (s : Store) (d : Nat) (l : List Edg) : (l.map edgeV).map (fun cs => cs.map (vwc s d)) = l.map edgeV := by simp [edgeV, vwc_int]
def sumAt (ws : List Int) (l : List Int) : Int := (l.map fun i => ws.getD i.toNat 0).sum
theorem sumAt_succ {ws l : List Int} {j : Nat} {x : Int} (h : l[j]? = some x) : sumAt ws (l.take (j + 1)) = sumAt ws (l.take j) + ws.getD x.toNat 0 := by
  obtain ⟨hj, rfl⟩ := List.getElem?_eq_some_iff.1 h
  unfold sumAt; rw [List.take_succ_eq_append_getElem hj, List.map_append, List.sum_append]; simp only [List.map_cons, List.map_nil, List.sum_cons, List.sum_nil, Int.add_zero]
theorem sumAt_bnd {ws : List Int} {B : Int} (hB : 0 ≤ B) (h : ∀ w ∈ ws, -B ≤ w ∧ w ≤ B) (l : List Int) : -(B * l.length) ≤ sumAt ws l ∧ sumAt ws l ≤ B * l.length := by
  induction l with
  | nil => simp [sumAt]
  | cons x l ih =>
    have hx : -B ≤ ws.getD x.toNat 0 ∧ ws.getD x.toNat 0 ≤ B := by
      by_cases hi : x.toNat < ws.length
      · exact h _ (mem_getD hi 0)
      · rw [getD_out (by omega)]; omega
    simp only [sumAt, List.map_cons, List.sum_cons, List.length_cons] at ih ⊢
    rw [Int.natCast_succ, Int.mul_add]
    omega
attribute [go_sem] edges_take edges_app vwc_edges
end Go.AM
namespace Go.Proofs.F
open Go.AM Go
set_option maxRecDepth 100000
set_option maxHeartbeats 1000000
theorem clo_r (ws : List Int) (ns : List (Int × Int)) (h1 : ws.length ≤ 500) (h2 : ns.length ≤ 1000) (hw : ∀ w ∈ ws, -1073741824 ≤ w ∧ w ≤ 1073741824) (hn : ∀ p ∈ ns, 0 ≤ p.1 ∧ p.1 < ws.length ∧ 0 ≤ p.2 ∧ p.2 < ws.length)
    (hv : validB (cNet ws ns) = true) (Inv : List Arc → Int → Prop) (hok : FillOk (openP (cNet ws ns)).2 (cNet ws ns).N.toNat ws.length (ws.length + 1) Inv) (hI : Inv (openP (cNet ws ns)).1 0) (F : Nat)
    (A' : List Arc) (v' : Int) (pr' : List Int) (hf : fillP (openP (cNet ws ns)).2 ws.length (ws.length + 1) F (openP (cNet ws ns)).1 0 = some (A', v', pr')) (hpl : pr'.length = (cNet ws ns).N.toNat) :
    Reads Try.prog 23 false [.rsl 1 (ints ws), .rsl 2 (ns.map pairV)] (.tup [.agg [.int .i64 ws.length, .rsl 1 (words (ofW ws.length (memb pr' ws.length)))], .int .i64 (sumAt ws (memb pr' ws.length)), .int .i64 0]) := by
  have hpl2 : pr'.length = ws.length + 2 := by rw [hpl]; simp only [cNet]; omega
  have hop := open_u (cNet ws ns) hv
  have hm := (members_r pr' ws.length (by omega) (by omega)).old
  have hml := memb_le pr' ws.length
  have hmr := memb_rng pr' ws.length
  have hof := (of_r ws.length (memb pr' ws.length) (by omega) (by omega) (by omega) hmr).old
  unfold netV at hop
  have hNN : (cNet ws ns).N = ws.length + 2 := rfl
  have hNE : (cNet ws ns).E = wEdges ws ws.length ++ nEdges ns := rfl
  rw [hNN, hNE] at hop
  rw [hNN] at hok
  have hpu : ((ws.length : Int) + 2).toNat = ws.length + 2 := by omega
  rw [hpu] at hop hok
  generalize hG : openP (cNet ws ns) = G at *
  have hI0 := hI
  refine Reads.body (rs := [.cell 4 37, .tmp 5, .tmp 6]) Try.func23 rfl Try.ntmps23 rfl (by simp) ?_
  generalize hQr : retQ _ _ _ = Qr
  refine AW.seq fun K1 hK1 => ?_
  -- region 0
  refine AW.regionK 0 (fun _ => none) [0, 1, 4, 5] [4] ?_
  simp only [go_sem, reduceIte, reduceCtorEq, Nat.reduceAdd, Nat.reduceMul, Nat.reduceEqDiff, Nat.reduceLT, Nat.reduceLeDiff, Nat.reduceSub, Nat.reducePow, Nat.reduceBEq, Int.reduceToNat, List.reduceReplicate]
  repeat with_reducible refine cj ?_ ?_
  all_goals try first | omega
  refine hK1 _ _ _ ?_; clear hK1
  refine AW.seq fun K2 hK2 => ?_
  refine AW.seq fun K3 hK3 => ?_
  -- region 1
  refine AW.regionK 0 (fun _ => none) [0, 1, 4, 5, 27] [4] ?_
  simp only [go_sem, reduceIte, reduceCtorEq, Nat.reduceAdd, Nat.reduceMul, Nat.reduceEqDiff, Nat.reduceLT, Nat.reduceLeDiff, Nat.reduceSub, Nat.reducePow, Nat.reduceBEq, Int.reduceToNat, List.reduceReplicate]
  repeat with_reducible refine cj ?_ ?_
  all_goals try first | omega | (simp only [go_sem, reduceIte, reduceCtorEq, Nat.reduceAdd, Nat.reduceMul, Nat.reduceEqDiff, Nat.reduceLT, Nat.reduceLeDiff, Nat.reduceSub, Nat.reducePow, Nat.reduceBEq, Int.reduceToNat, List.reduceReplicate]; done) | (simp_all [go_sem]; done)
  refine hK3 _ _ _ ?_; clear hK3
  -- cond 1
  refine AW.cond rfl (by simp only [go_sem, reduceIte, reduceCtorEq, Nat.reduceAdd, Nat.reduceMul, Nat.reduceEqDiff, Nat.reduceLT, Nat.reduceLeDiff, Nat.reduceSub, Nat.reducePow, Nat.reduceBEq, Int.reduceToNat, List.reduceReplicate]) ?_ ?_
  · intro hb
    try simp only [hB, decide_eq_true_eq, decide_eq_false_iff_not] at hb
    exfalso; omega
  · intro hb
    try simp only [hB, decide_eq_true_eq, decide_eq_false_iff_not] at hb
    refine AW.skip ?_
    refine hK2 _ _ _ ?_; clear hK2
    refine AW.seq fun K4 hK4 => ?_
    -- region 3
    refine AW.regionK 0 (fun _ => none) [0, 1, 4, 5, 7] [4] ?_
    simp only [go_sem, reduceIte, reduceCtorEq, Nat.reduceAdd, Nat.reduceMul, Nat.reduceEqDiff, Nat.reduceLT, Nat.reduceLeDiff, Nat.reduceSub, Nat.reducePow, Nat.reduceBEq, Int.reduceToNat, List.reduceReplicate]
    repeat with_reducible refine cj ?_ ?_
    all_goals try first | omega
    refine hK4 _ _ _ ?_; clear hK4
    refine AW.seq fun K5 hK5 => ?_
    -- region 4
    refine AW.regionK 0 (fun _ => none) [0, 1, 4, 5, 7, 8, 9] [4] ?_
    simp only [go_sem, reduceIte, reduceCtorEq, Nat.reduceAdd, Nat.reduceMul, Nat.reduceEqDiff, Nat.reduceLT, Nat.reduceLeDiff, Nat.reduceSub, Nat.reducePow, Nat.reduceBEq, Int.reduceToNat, List.reduceReplicate]
    repeat with_reducible refine cj ?_ ?_
    all_goals try first | omega
    refine hK5 _ _ _ ?_; clear hK5
    refine AW.seq fun K6 hK6 => ?_
    -- region 5
    refine AW.regionK 0 (fun _ => none) [0, 1, 4, 5, 7, 8, 9, 10] [4, 10] ?_
    simp only [go_sem, reduceIte, reduceCtorEq, Nat.reduceAdd, Nat.reduceMul, Nat.reduceEqDiff, Nat.reduceLT, Nat.reduceLeDiff, Nat.reduceSub, Nat.reducePow, Nat.reduceBEq, Int.reduceToNat, List.reduceReplicate]
    repeat with_reducible refine cj ?_ ?_
    all_goals try first | omega
    refine hK6 _ _ _ ?_; clear hK6
    refine AW.seq fun K7 hK7 => ?_
    refine AW.seq fun K8 hK8 => ?_
    -- region 6
    refine AW.regionK 0 (fun _ => none) [0, 1, 4, 5, 7, 8, 9, 10, 37, 38, 39] [4, 10] ?_
    simp only [go_sem, reduceIte, reduceCtorEq, Nat.reduceAdd, Nat.reduceMul, Nat.reduceEqDiff, Nat.reduceLT, Nat.reduceLeDiff, Nat.reduceSub, Nat.reducePow, Nat.reduceBEq, Int.reduceToNat, List.reduceReplicate]
    repeat with_reducible refine cj ?_ ?_
    all_goals try first | omega
    refine hK8 _ _ _ ?_; clear hK8
    refine AW.block ?_
    refine AW.nilCellK 10 0 1 200 3 ?_
    simp only [go_sem, reduceIte, Nat.reduceEqDiff]
    repeat refine cj ?_ ?_
    rotate_left
    · decide
    · decide
    · decide
    refine AW.keep [0, 1, 4, 5, 7, 8, 9, 10, 37, 38, 39] [4, 10, 200] ?_
    simp only [go_sem, reduceIte, Nat.reduceEqDiff]
    -- loop 1
    refine AW.loopE (fun mm ee ss kk => ∃ (j g10 v10 g v : Nat), ws.length - j = mm ∧ ee = [(0, .rsl 1 (ints ws)), (1, .rsl 2 (ns.map pairV)), (4, .ptr ⟨4, 0, none⟩ 0 0), (5, .int .i64 0), (7, .int .i64 ws.length), (8, .int .i64 ws.length), (9, .int .i64 (ws.length + 1)), (10, .ptr ⟨10, g10, none⟩ 0 0), (37, .rsl 1 (ints ws)), (38, .int .i64 ws.length), (39, .int .i64 (j : Nat))] ∧ ss = [(4, some ⟨0, 0, 2, [[.int .i64 0, .nilsl]]⟩), (10, some ⟨g10, v10, 2, [[.int .i64 (ws.length + 2), .sl ⟨200, g, none⟩ 0 (wEdges ws j).length none]]⟩), (200, some ⟨g, v, 3, (wEdges ws j).map edgeV⟩)] ∧ (j ≤ ws.length)) ?_ ?_
    · refine ⟨_, 0, ?_, ?_, ?_, ?_, rfl, ?henv, ?hstore, ?hst⟩
      case henv =>
        repeat' (first | rfl | refine env_cons ?_ ?_ | refine st_cons ?_ ?_ ?_ ?_ | refine int_eq ?_ | refine bool_eq ?_ | refine rsl_eq ?_ | refine osl_eq ?_ | refine sl_eq ?_ ?_ ?_ | refine ptr_eq ?_ ?_ ?_ | refine agg_eq ?_ | refine es_cons ?_ ?_ | refine row_cons ?_ ?_)
        all_goals (first | (simp; done) | omega | (simp; omega))
      case hstore =>
        repeat' (first | rfl | refine env_cons ?_ ?_ | refine st_cons ?_ ?_ ?_ ?_ | refine int_eq ?_ | refine bool_eq ?_ | refine rsl_eq ?_ | refine osl_eq ?_ | refine sl_eq ?_ ?_ ?_ | refine ptr_eq ?_ ?_ ?_ | refine agg_eq ?_ | refine es_cons ?_ ?_ | refine row_cons ?_ ?_)
        all_goals (first | (simp; done) | omega | (simp; omega))
      case hst =>
        first | trivial | omega | (simp; done) | (simp; omega)
    rintro mm ee ss kk ⟨j, g10, v10, g, v, rfl, rfl, rfl, hI⟩
    generalize hQl1 : thenQ _ _ = Ql1
    refine AW.seq fun K9 hK9 => ?_
    -- region 7
    refine AW.regionK 0 (fun _ => none) [0, 1, 4, 5, 7, 8, 9, 10, 37, 38, 39, 40] [4, 10, 200] ?_
    simp only [go_sem, reduceIte, reduceCtorEq, Nat.reduceAdd, Nat.reduceMul, Nat.reduceEqDiff, Nat.reduceLT, Nat.reduceLeDiff, Nat.reduceSub, Nat.reducePow, Nat.reduceBEq, Int.reduceToNat, List.reduceReplicate]
    repeat with_reducible refine cj ?_ ?_
    all_goals try first | omega
    refine hK9 _ _ _ ?_; clear hK9
    refine AW.seq fun K10 hK10 => ?_
    -- cond 2
    refine AW.cond rfl (by simp only [go_sem, reduceIte, reduceCtorEq, Nat.reduceAdd, Nat.reduceMul, Nat.reduceEqDiff, Nat.reduceLT, Nat.reduceLeDiff, Nat.reduceSub, Nat.reducePow, Nat.reduceBEq, Int.reduceToNat, List.reduceReplicate]) ?_ ?_
    · intro hb
      try simp only [hB, decide_eq_true_eq, decide_eq_false_iff_not] at hb
      obtain ⟨x, hx⟩ := getI (l := ws) (j := j) (by omega)
      have hgx := ints_get hx
      have hxw := hw x (List.mem_of_getElem? hx)
      have hxd := getD_of hx 0
      have hes := wEdges_succ ws j
      have hel := wEdges_len ws j
      rw [hxd] at hes
      unfold wEdge at hes
      refine AW.skip ?_
      refine hK10 _ _ _ ?_; clear hK10
      refine AW.seq fun K11 hK11 => ?_
      refine AW.block ?_
      refine AW.seq fun K12 hK12 => ?_
      -- region 8
      refine AW.regionK 0 (fun _ => none) [0, 1, 4, 5, 7, 8, 9, 10, 11, 12, 37, 38, 39] [4, 10, 200] ?_
      simp only [go_sem, reduceIte, reduceCtorEq, Nat.reduceAdd, Nat.reduceMul, Nat.reduceEqDiff, Nat.reduceLT, Nat.reduceLeDiff, Nat.reduceSub, Nat.reducePow, Nat.reduceBEq, Int.reduceToNat, List.reduceReplicate, hgx]
      repeat with_reducible refine cj ?_ ?_
      all_goals try first | omega
      refine hK12 _ _ _ ?_; clear hK12
      refine AW.block ?_
      refine AW.seq fun K13 hK13 => ?_
      -- region 9
      refine AW.regionK 0 (fun _ => none) [0, 1, 4, 5, 7, 8, 9, 10, 11, 12, 37, 38, 39, 44] [4, 10, 200] ?_
      simp only [go_sem, reduceIte, reduceCtorEq, Nat.reduceAdd, Nat.reduceMul, Nat.reduceEqDiff, Nat.reduceLT, Nat.reduceLeDiff, Nat.reduceSub, Nat.reducePow, Nat.reduceBEq, Int.reduceToNat, List.reduceReplicate]
      repeat with_reducible refine cj ?_ ?_
      all_goals try first | omega | (simp only [go_sem, reduceIte, reduceCtorEq, Nat.reduceAdd, Nat.reduceMul, Nat.reduceEqDiff, Nat.reduceLT, Nat.reduceLeDiff, Nat.reduceSub, Nat.reducePow, Nat.reduceBEq, Int.reduceToNat, List.reduceReplicate]; done) | (simp_all [go_sem]; done)
      refine hK13 _ _ _ ?_; clear hK13
      -- cond 3
      refine AW.cond rfl (by simp only [go_sem, reduceIte, reduceCtorEq, Nat.reduceAdd, Nat.reduceMul, Nat.reduceEqDiff, Nat.reduceLT, Nat.reduceLeDiff, Nat.reduceSub, Nat.reducePow, Nat.reduceBEq, Int.reduceToNat, List.reduceReplicate]) ?_ ?_
      · intro hb
        try simp only [hB, decide_eq_true_eq, decide_eq_false_iff_not] at hb
        exfalso; omega
      · intro hb
        try simp only [hB, decide_eq_true_eq, decide_eq_false_iff_not] at hb
        refine AW.seq fun K14 hK14 => ?_
        -- region 11
        refine AW.regionK 0 (fun _ => none) [0, 1, 4, 5, 7, 8, 9, 10, 11, 12, 37, 38, 39, 52] [4, 10, 200] ?_
        simp only [go_sem, reduceIte, reduceCtorEq, Nat.reduceAdd, Nat.reduceMul, Nat.reduceEqDiff, Nat.reduceLT, Nat.reduceLeDiff, Nat.reduceSub, Nat.reducePow, Nat.reduceBEq, Int.reduceToNat, List.reduceReplicate]
        repeat with_reducible refine cj ?_ ?_
        all_goals try first | omega
        refine hK14 _ _ _ ?_; clear hK14
        -- cond 4
        refine AW.cond rfl (by simp only [go_sem, reduceIte, reduceCtorEq, Nat.reduceAdd, Nat.reduceMul, Nat.reduceEqDiff, Nat.reduceLT, Nat.reduceLeDiff, Nat.reduceSub, Nat.reducePow, Nat.reduceBEq, Int.reduceToNat, List.reduceReplicate]) ?_ ?_
        · intro hb
          try simp only [hB, decide_eq_true_eq, decide_eq_false_iff_not] at hb
          rw [if_pos hb] at hes
          -- region 12
          refine AW.regionK 0 (fun _ => none) [0, 1, 4, 5, 7, 8, 9, 10, 37, 38, 39] [4, 10, 200] ?_
          simp only [go_sem, reduceIte, reduceCtorEq, Nat.reduceAdd, Nat.reduceMul, Nat.reduceEqDiff, Nat.reduceLT, Nat.reduceLeDiff, Nat.reduceSub, Nat.reducePow, Nat.reduceBEq, Int.reduceToNat, List.reduceReplicate]
          repeat with_reducible refine cj ?_ ?_
          all_goals try first | omega | (simp [scP, scalar]; done)
          refine hK11 _ _ _ ?_; clear hK11
          -- region 15
          refine AW.regionK 0 (fun _ => none) [0, 1, 4, 5, 7, 8, 9, 10, 37, 38, 39] [4, 10, 200] ?_
          simp only [go_sem, reduceIte, reduceCtorEq, Nat.reduceAdd, Nat.reduceMul, Nat.reduceEqDiff, Nat.reduceLT, Nat.reduceLeDiff, Nat.reduceSub, Nat.reducePow, Nat.reduceBEq, Int.reduceToNat, List.reduceReplicate]
          repeat with_reducible refine cj ?_ ?_
          all_goals try first | omega
          rw [← hQl1]
          change Exists _
          refine ⟨_, ?hm, j + 1, ?_, ?_, ?_, ?_, rfl, ?henv, ?hstore, ?hst⟩
          case henv =>
            repeat' (first | rfl | refine env_cons ?_ ?_ | refine st_cons ?_ ?_ ?_ ?_ | refine int_eq ?_ | refine bool_eq ?_ | refine rsl_eq ?_ | refine osl_eq ?_ | refine sl_eq ?_ ?_ ?_ | refine ptr_eq ?_ ?_ ?_ | refine agg_eq ?_ | refine es_cons ?_ ?_ | refine row_cons ?_ ?_)
            all_goals (first | (simp; done) | omega | (simp; omega))
          case hstore =>
            repeat' (first | rfl | refine env_cons ?_ ?_ | refine st_cons ?_ ?_ ?_ ?_ | refine int_eq ?_ | refine bool_eq ?_ | refine rsl_eq ?_ | refine osl_eq ?_ | refine sl_eq ?_ ?_ ?_ | refine ptr_eq ?_ ?_ ?_ | refine agg_eq ?_ | refine es_cons ?_ ?_ | refine row_cons ?_ ?_)
            all_goals (rw [hes]; try simp)
          case hst =>
            first | trivial | omega | (simp; done) | (simp; omega)
          case hm => omega
        · intro hb
          try simp only [hB, decide_eq_true_eq, decide_eq_false_iff_not] at hb
          refine AW.seq fun K15 hK15 => ?_
          -- region 13
          refine AW.regionK 0 (fun _ => none) [0, 1, 4, 5, 7, 8, 9, 10, 11, 12, 37, 38, 39, 64] [4, 10, 200] ?_
          simp only [go_sem, reduceIte, reduceCtorEq, Nat.reduceAdd, Nat.reduceMul, Nat.reduceEqDiff, Nat.reduceLT, Nat.reduceLeDiff, Nat.reduceSub, Nat.reducePow, Nat.reduceBEq, Int.reduceToNat, List.reduceReplicate]
          repeat with_reducible refine cj ?_ ?_
          all_goals try first | omega
          refine hK15 _ _ _ ?_; clear hK15
          -- cond 5
          refine AW.cond rfl (by simp only [go_sem, reduceIte, reduceCtorEq, Nat.reduceAdd, Nat.reduceMul, Nat.reduceEqDiff, Nat.reduceLT, Nat.reduceLeDiff, Nat.reduceSub, Nat.reducePow, Nat.reduceBEq, Int.reduceToNat, List.reduceReplicate]) ?_ ?_
          · intro hb
            try simp only [hB, decide_eq_true_eq, decide_eq_false_iff_not] at hb
            rw [if_neg (by omega), if_pos hb] at hes
            -- region 14
            refine AW.regionK 0 (fun _ => none) [0, 1, 4, 5, 7, 8, 9, 10, 37, 38, 39] [4, 10, 200] ?_
            simp only [go_sem, reduceIte, reduceCtorEq, Nat.reduceAdd, Nat.reduceMul, Nat.reduceEqDiff, Nat.reduceLT, Nat.reduceLeDiff, Nat.reduceSub, Nat.reducePow, Nat.reduceBEq, Int.reduceToNat, List.reduceReplicate]
            repeat with_reducible refine cj ?_ ?_
            all_goals try first | omega | (simp [scP, scalar]; done)
            refine hK11 _ _ _ ?_; clear hK11
            -- region 15
            refine AW.regionK 0 (fun _ => none) [0, 1, 4, 5, 7, 8, 9, 10, 37, 38, 39] [4, 10, 200] ?_
            simp only [go_sem, reduceIte, reduceCtorEq, Nat.reduceAdd, Nat.reduceMul, Nat.reduceEqDiff, Nat.reduceLT, Nat.reduceLeDiff, Nat.reduceSub, Nat.reducePow, Nat.reduceBEq, Int.reduceToNat, List.reduceReplicate]
            repeat with_reducible refine cj ?_ ?_
            all_goals try first | omega
            rw [← hQl1]
            change Exists _
            refine ⟨_, ?hm, j + 1, ?_, ?_, ?_, ?_, rfl, ?henv, ?hstore, ?hst⟩
            case henv =>
              repeat' (first | rfl | refine env_cons ?_ ?_ | refine st_cons ?_ ?_ ?_ ?_ | refine int_eq ?_ | refine bool_eq ?_ | refine rsl_eq ?_ | refine osl_eq ?_ | refine sl_eq ?_ ?_ ?_ | refine ptr_eq ?_ ?_ ?_ | refine agg_eq ?_ | refine es_cons ?_ ?_ | refine row_cons ?_ ?_)
              all_goals (first | (simp; done) | omega | (simp; omega))
            case hstore =>
              repeat' (first | rfl | refine env_cons ?_ ?_ | refine st_cons ?_ ?_ ?_ ?_ | refine int_eq ?_ | refine bool_eq ?_ | refine rsl_eq ?_ | refine osl_eq ?_ | refine sl_eq ?_ ?_ ?_ | refine ptr_eq ?_ ?_ ?_ | refine agg_eq ?_ | refine es_cons ?_ ?_ | refine row_cons ?_ ?_)
              all_goals (rw [hes]; try simp)
            case hst =>
              first | trivial | omega | (simp; done) | (simp; omega)
            case hm => omega
          · intro hb
            try simp only [hB, decide_eq_true_eq, decide_eq_false_iff_not] at hb
            rw [if_neg (by omega), if_neg (by omega), List.append_nil] at hes
            refine AW.skip ?_
            refine hK11 _ _ _ ?_; clear hK11
            -- region 15
            refine AW.regionK 0 (fun _ => none) [0, 1, 4, 5, 7, 8, 9, 10, 37, 38, 39] [4, 10, 200] ?_
            simp only [go_sem, reduceIte, reduceCtorEq, Nat.reduceAdd, Nat.reduceMul, Nat.reduceEqDiff, Nat.reduceLT, Nat.reduceLeDiff, Nat.reduceSub, Nat.reducePow, Nat.reduceBEq, Int.reduceToNat, List.reduceReplicate]
            repeat with_reducible refine cj ?_ ?_
            all_goals try first | omega
            rw [← hQl1]
            change Exists _
            refine ⟨_, ?hm, j + 1, ?_, ?_, ?_, ?_, rfl, ?henv, ?hstore, ?hst⟩
            case henv =>
              repeat' (first | rfl | refine env_cons ?_ ?_ | refine st_cons ?_ ?_ ?_ ?_ | refine int_eq ?_ | refine bool_eq ?_ | refine rsl_eq ?_ | refine osl_eq ?_ | refine sl_eq ?_ ?_ ?_ | refine ptr_eq ?_ ?_ ?_ | refine agg_eq ?_ | refine es_cons ?_ ?_ | refine row_cons ?_ ?_)
              all_goals (first | (simp; done) | omega | (simp; omega))
            case hstore =>
              repeat' (first | rfl | refine env_cons ?_ ?_ | refine st_cons ?_ ?_ ?_ ?_ | refine int_eq ?_ | refine bool_eq ?_ | refine rsl_eq ?_ | refine osl_eq ?_ | refine sl_eq ?_ ?_ ?_ | refine ptr_eq ?_ ?_ ?_ | refine agg_eq ?_ | refine es_cons ?_ ?_ | refine row_cons ?_ ?_)
              all_goals (rw [hes]; try simp)
            case hst =>
              first | trivial | omega | (simp; done) | (simp; omega)
            case hm => omega
    · intro hb
      try simp only [hB, decide_eq_true_eq, decide_eq_false_iff_not] at hb
      refine AW.exit ?_
      rw [← hQl1]
      refine hK7 _ _ _ ?_; clear hK7
      refine AW.seq fun K16 hK16 => ?_
      refine AW.seq fun K17 hK17 => ?_
      -- region 16
      refine AW.regionK 0 (fun _ => none) [0, 4, 5, 7, 8, 9, 10, 78, 79, 80] [4, 10, 200] ?_
      simp only [go_sem, reduceIte, reduceCtorEq, Nat.reduceAdd, Nat.reduceMul, Nat.reduceEqDiff, Nat.reduceLT, Nat.reduceLeDiff, Nat.reduceSub, Nat.reducePow, Nat.reduceBEq, Int.reduceToNat, List.reduceReplicate]
      repeat with_reducible refine cj ?_ ?_
      all_goals try first | omega
      refine hK17 _ _ _ ?_; clear hK17
      refine AW.block ?_
      obtain rfl : j = ws.length := by omega
      -- loop 2
      refine AW.loopE (fun mm ee ss kk => ∃ (j g10 v10 g v : Nat), ns.length - j = mm ∧ ee = [(0, .rsl 1 (ints ws)), (4, .ptr ⟨4, 0, none⟩ 0 0), (5, .int .i64 0), (7, .int .i64 ws.length), (8, .int .i64 ws.length), (9, .int .i64 (ws.length + 1)), (10, .ptr ⟨10, g10, none⟩ 0 0), (78, .rsl 2 (ns.map pairV)), (79, .int .i64 ns.length), (80, .int .i64 (j : Nat))] ∧ ss = [(4, some ⟨0, 0, 2, [[.int .i64 0, .nilsl]]⟩), (10, some ⟨g10, v10, 2, [[.int .i64 (ws.length + 2), .sl ⟨200, g, none⟩ 0 (wEdges ws ws.length ++ nEdges (ns.take j)).length none]]⟩), (200, some ⟨g, v, 3, (wEdges ws ws.length ++ nEdges (ns.take j)).map edgeV⟩)] ∧ (j ≤ ns.length)) ?_ ?_
      · refine ⟨_, 0, ?_, ?_, ?_, ?_, rfl, ?henv, ?hstore, ?hst⟩
        case henv =>
          repeat' (first | rfl | refine env_cons ?_ ?_ | refine st_cons ?_ ?_ ?_ ?_ | refine int_eq ?_ | refine bool_eq ?_ | refine rsl_eq ?_ | refine osl_eq ?_ | refine sl_eq ?_ ?_ ?_ | refine ptr_eq ?_ ?_ ?_ | refine agg_eq ?_ | refine es_cons ?_ ?_ | refine row_cons ?_ ?_)
          all_goals (first | (simp; done) | omega | (simp; omega))
        case hstore =>
          repeat' (first | rfl | refine env_cons ?_ ?_ | refine st_cons ?_ ?_ ?_ ?_ | refine int_eq ?_ | refine bool_eq ?_ | refine rsl_eq ?_ | refine osl_eq ?_ | refine sl_eq ?_ ?_ ?_ | refine ptr_eq ?_ ?_ ?_ | refine agg_eq ?_ | refine es_cons ?_ ?_ | refine row_cons ?_ ?_)
          all_goals simp [nEdges]
        case hst =>
          first | trivial | omega | (simp; done) | (simp; omega)
      rintro mm ee ss kk ⟨j, g10, v10, g, v, rfl, rfl, rfl, hI⟩
      generalize hQl2 : thenQ _ _ = Ql2
      refine AW.seq fun K18 hK18 => ?_
      -- region 17
      refine AW.regionK 0 (fun _ => none) [0, 4, 5, 7, 8, 9, 10, 78, 79, 80, 81] [4, 10, 200] ?_
      simp only [go_sem, reduceIte, reduceCtorEq, Nat.reduceAdd, Nat.reduceMul, Nat.reduceEqDiff, Nat.reduceLT, Nat.reduceLeDiff, Nat.reduceSub, Nat.reducePow, Nat.reduceBEq, Int.reduceToNat, List.reduceReplicate]
      repeat with_reducible refine cj ?_ ?_
      all_goals try first | omega
      refine hK18 _ _ _ ?_; clear hK18
      refine AW.seq fun K19 hK19 => ?_
      -- cond 6
      refine AW.cond rfl (by simp only [go_sem, reduceIte, reduceCtorEq, Nat.reduceAdd, Nat.reduceMul, Nat.reduceEqDiff, Nat.reduceLT, Nat.reduceLeDiff, Nat.reduceSub, Nat.reducePow, Nat.reduceBEq, Int.reduceToNat, List.reduceReplicate]) ?_ ?_
      · intro hb
        try simp only [hB, decide_eq_true_eq, decide_eq_false_iff_not] at hb
        obtain ⟨p, hp⟩ := getI (l := ns) (j := j) (by omega)
        have hgp := getV (f := pairV) hp
        have hpn := hn p (List.mem_of_getElem? hp)
        have hes := nEdges_succ hp
        have hel := wEdges_len ws ws.length
        have hel2 := nEdges_len (ns.take j)
        have hel3 : (ns.take j).length ≤ 1000 := by simp; omega
        unfold nEdge at hes
        refine AW.skip ?_
        refine hK19 _ _ _ ?_; clear hK19
        refine AW.seq fun K20 hK20 => ?_
        refine AW.block ?_
        refine AW.seq fun K21 hK21 => ?_
        -- region 18
        refine AW.regionK 0 (fun _ => none) [0, 4, 5, 7, 8, 9, 10, 14, 78, 79, 80] [4, 10, 14, 200] ?_
        simp only [go_sem, reduceIte, reduceCtorEq, Nat.reduceAdd, Nat.reduceMul, Nat.reduceEqDiff, Nat.reduceLT, Nat.reduceLeDiff, Nat.reduceSub, Nat.reducePow, Nat.reduceBEq, Int.reduceToNat, List.reduceReplicate, hgp, pairV]
        repeat with_reducible refine cj ?_ ?_
        all_goals try first | omega
        refine hK21 _ _ _ ?_; clear hK21
        refine AW.seq fun K22 hK22 => ?_
        refine AW.seq fun K23 hK23 => ?_
        -- region 19
        refine AW.regionK 0 (fun _ => none) [0, 4, 5, 7, 8, 9, 10, 14, 78, 79, 80, 103] [4, 10, 14, 200] ?_
        simp only [go_sem, reduceIte, reduceCtorEq, Nat.reduceAdd, Nat.reduceMul, Nat.reduceEqDiff, Nat.reduceLT, Nat.reduceLeDiff, Nat.reduceSub, Nat.reducePow, Nat.reduceBEq, Int.reduceToNat, List.reduceReplicate]
        repeat with_reducible refine cj ?_ ?_
        all_goals try first | omega | (simp only [go_sem, reduceIte, reduceCtorEq, Nat.reduceAdd, Nat.reduceMul, Nat.reduceEqDiff, Nat.reduceLT, Nat.reduceLeDiff, Nat.reduceSub, Nat.reducePow, Nat.reduceBEq, Int.reduceToNat, List.reduceReplicate]; done) | (simp_all [go_sem]; done)
        refine hK23 _ _ _ ?_; clear hK23
        -- cond 7
        refine AW.cond rfl (by simp only [go_sem, reduceIte, reduceCtorEq, Nat.reduceAdd, Nat.reduceMul, Nat.reduceEqDiff, Nat.reduceLT, Nat.reduceLeDiff, Nat.reduceSub, Nat.reducePow, Nat.reduceBEq, Int.reduceToNat, List.reduceReplicate]) ?_ ?_
        · intro hb
          try simp only [hB, decide_eq_true_eq, decide_eq_false_iff_not] at hb
          exfalso; omega
        · intro hb
          try simp only [hB, decide_eq_true_eq, decide_eq_false_iff_not] at hb
          refine AW.skip ?_
          refine hK22 _ _ _ ?_; clear hK22
          refine AW.seq fun K24 hK24 => ?_
          -- region 21
          refine AW.regionK 0 (fun _ => none) [0, 4, 5, 7, 8, 9, 10, 14, 78, 79, 80, 109] [4, 10, 14, 200] ?_
          simp only [go_sem, reduceIte, reduceCtorEq, Nat.reduceAdd, Nat.reduceMul, Nat.reduceEqDiff, Nat.reduceLT, Nat.reduceLeDiff, Nat.reduceSub, Nat.reducePow, Nat.reduceBEq, Int.reduceToNat, List.reduceReplicate]
          repeat with_reducible refine cj ?_ ?_
          all_goals try first | omega
          refine hK24 _ _ _ ?_; clear hK24
          -- cond 8
          refine AW.cond rfl (by simp only [go_sem, reduceIte, reduceCtorEq, Nat.reduceAdd, Nat.reduceMul, Nat.reduceEqDiff, Nat.reduceLT, Nat.reduceLeDiff, Nat.reduceSub, Nat.reducePow, Nat.reduceBEq, Int.reduceToNat, List.reduceReplicate]) ?_ ?_
          · intro hb
            try simp only [hB, decide_eq_true_eq, decide_eq_false_iff_not] at hb
            rw [if_neg hb] at hes
            -- region 22
            refine AW.regionK 0 (fun _ => none) [0, 4, 5, 7, 8, 9, 10, 78, 79, 80] [4, 10, 200] ?_
            simp only [go_sem, reduceIte, reduceCtorEq, Nat.reduceAdd, Nat.reduceMul, Nat.reduceEqDiff, Nat.reduceLT, Nat.reduceLeDiff, Nat.reduceSub, Nat.reducePow, Nat.reduceBEq, Int.reduceToNat, List.reduceReplicate]
            repeat with_reducible refine cj ?_ ?_
            all_goals try first | ((simp only [List.length_append]; omega)) | omega | (simp [scP, scalar]; done)
            refine hK20 _ _ _ ?_; clear hK20
            -- region 23
            refine AW.regionK 0 (fun _ => none) [0, 4, 5, 7, 8, 9, 10, 78, 79, 80] [4, 10, 200] ?_
            simp only [go_sem, reduceIte, reduceCtorEq, Nat.reduceAdd, Nat.reduceMul, Nat.reduceEqDiff, Nat.reduceLT, Nat.reduceLeDiff, Nat.reduceSub, Nat.reducePow, Nat.reduceBEq, Int.reduceToNat, List.reduceReplicate]
            repeat with_reducible refine cj ?_ ?_
            all_goals try first | omega
            rw [← hQl2]
            change Exists _
            refine ⟨_, ?hm, j + 1, ?_, ?_, ?_, ?_, rfl, ?henv, ?hstore, ?hst⟩
            case henv =>
              repeat' (first | rfl | refine env_cons ?_ ?_ | refine st_cons ?_ ?_ ?_ ?_ | refine int_eq ?_ | refine bool_eq ?_ | refine rsl_eq ?_ | refine osl_eq ?_ | refine sl_eq ?_ ?_ ?_ | refine ptr_eq ?_ ?_ ?_ | refine agg_eq ?_ | refine es_cons ?_ ?_ | refine row_cons ?_ ?_)
              all_goals (first | (simp; done) | omega | (simp; omega))
            case hstore =>
              repeat' (first | rfl | refine env_cons ?_ ?_ | refine st_cons ?_ ?_ ?_ ?_ | refine int_eq ?_ | refine bool_eq ?_ | refine rsl_eq ?_ | refine osl_eq ?_ | refine sl_eq ?_ ?_ ?_ | refine ptr_eq ?_ ?_ ?_ | refine agg_eq ?_ | refine es_cons ?_ ?_ | refine row_cons ?_ ?_)
              all_goals (rw [hes]; try rw [← List.append_assoc]; try simp [edgeV]; try omega)
            case hst =>
              first | trivial | omega | (simp; done) | (simp; omega)
            case hm => omega
          · intro hb
            try simp only [hB, decide_eq_true_eq, decide_eq_false_iff_not] at hb
            rw [if_pos (by omega), List.append_nil] at hes
            refine AW.skip ?_
            refine hK20 _ _ _ ?_; clear hK20
            -- region 23
            refine AW.regionK 0 (fun _ => none) [0, 4, 5, 7, 8, 9, 10, 78, 79, 80] [4, 10, 200] ?_
            simp only [go_sem, reduceIte, reduceCtorEq, Nat.reduceAdd, Nat.reduceMul, Nat.reduceEqDiff, Nat.reduceLT, Nat.reduceLeDiff, Nat.reduceSub, Nat.reducePow, Nat.reduceBEq, Int.reduceToNat, List.reduceReplicate]
            repeat with_reducible refine cj ?_ ?_
            all_goals try first | omega
            rw [← hQl2]
            change Exists _
            refine ⟨_, ?hm, j + 1, ?_, ?_, ?_, ?_, rfl, ?henv, ?hstore, ?hst⟩
            case henv =>
              repeat' (first | rfl | refine env_cons ?_ ?_ | refine st_cons ?_ ?_ ?_ ?_ | refine int_eq ?_ | refine bool_eq ?_ | refine rsl_eq ?_ | refine osl_eq ?_ | refine sl_eq ?_ ?_ ?_ | refine ptr_eq ?_ ?_ ?_ | refine agg_eq ?_ | refine es_cons ?_ ?_ | refine row_cons ?_ ?_)
              all_goals (first | (simp; done) | omega | (simp; omega))
            case hstore =>
              repeat' (first | rfl | refine env_cons ?_ ?_ | refine st_cons ?_ ?_ ?_ ?_ | refine int_eq ?_ | refine bool_eq ?_ | refine rsl_eq ?_ | refine osl_eq ?_ | refine sl_eq ?_ ?_ ?_ | refine ptr_eq ?_ ?_ ?_ | refine agg_eq ?_ | refine es_cons ?_ ?_ | refine row_cons ?_ ?_)
              all_goals (rw [hes]; try rw [← List.append_assoc]; try simp [edgeV]; try omega)
            case hst =>
              first | trivial | omega | (simp; done) | (simp; omega)
            case hm => omega
      · intro hb
        try simp only [hB, decide_eq_true_eq, decide_eq_false_iff_not] at hb
        obtain rfl : j = ns.length := by omega
        rw [List.take_length]
        refine AW.exit ?_
        rw [← hQl2]
        refine hK16 _ _ _ ?_; clear hK16
        refine AW.seq fun K25 hK25 => ?_
        refine AW.freezeK [10, 200] [10] [0, 4, 5, 7, 8, 9] [4] ?_
        simp only [go_sem, reduceIte, Nat.reduceEqDiff]
        -- region 24
        refine AW.regionK 0 (fun i => if i = 1 then some (.upd [] (fun k => [(0, some ⟨k, k, 2, [[.osl 2 (G.1.map arcV), .sl ⟨1, k, none⟩ 0 (ws.length + 2) none]]⟩), (1, some ⟨k, k, 1, leaveV G.2⟩)]) (fun k => .ptr ⟨0, k, none⟩ 0 0)) else if i = 4 then some (.upd [123, 1123] (fun k => [(0, some ⟨kk + 4, k, 2, [[.osl 2 (A'.map arcV), .sl ⟨1, kk + 4, none⟩ 0 (ws.length + 2) none]]⟩), (1, some ⟨kk + 4, k, 1, leaveV G.2⟩)]) (fun _ => .tup [.int .i64 v', .rsl 1 (ints pr')])) else none) [0, 4, 5, 7, 16] [4] ?_
        simp only [go_sem, reduceIte, reduceCtorEq, Nat.reduceAdd, Nat.reduceMul, Nat.reduceEqDiff, Nat.reduceLT, Nat.reduceLeDiff, Nat.reduceSub, Nat.reducePow, Nat.reduceBEq, Int.reduceToNat, List.reduceReplicate, ren_arcs, renC_leave]
        repeat with_reducible refine cj ?_ ?_
        all_goals try first | (first | exact hop | exact fill_u G.1 G.2 (ws.length + 2) ws.length (ws.length + 1) _ _ _ _ F (by omega) (by omega) (by omega) (by omega) Inv hok hI0 A' v' pr' hf) | omega | exact ent (by kernel_rfl)
        refine hK25 _ _ _ ?_; clear hK25
        refine AW.seq fun K26 hK26 => ?_
        -- region 25
        refine AW.regionK 0 (fun i => if i = 2 then some (.reads false (.rsl 1 (ints (memb pr' ws.length)))) else none) [0, 4, 5, 7, 17] [4] ?_
        simp only [go_sem, reduceIte, reduceCtorEq, Nat.reduceAdd, Nat.reduceMul, Nat.reduceEqDiff, Nat.reduceLT, Nat.reduceLeDiff, Nat.reduceSub, Nat.reducePow, Nat.reduceBEq, Int.reduceToNat, List.reduceReplicate]
        repeat with_reducible refine cj ?_ ?_
        all_goals try first | (exact hm) | omega | exact ent (by kernel_rfl)
        refine hK26 _ _ _ ?_; clear hK26
        refine AW.seq fun K27 hK27 => ?_
        refine AW.seq fun K28 hK28 => ?_
        -- region 26
        refine AW.regionK 0 (fun _ => none) [0, 4, 5, 7, 17, 132, 133, 134] [4] ?_
        simp only [go_sem, reduceIte, reduceCtorEq, Nat.reduceAdd, Nat.reduceMul, Nat.reduceEqDiff, Nat.reduceLT, Nat.reduceLeDiff, Nat.reduceSub, Nat.reducePow, Nat.reduceBEq, Int.reduceToNat, List.reduceReplicate]
        repeat with_reducible refine cj ?_ ?_
        all_goals try first | omega
        refine hK28 _ _ _ ?_; clear hK28
        refine AW.block ?_
        -- loop 3
        refine AW.loopE (fun mm ee ss kk => ∃ (j : Nat), (memb pr' ws.length).length - j = mm ∧ ee = [(0, .rsl 1 (ints ws)), (4, .ptr ⟨4, 0, none⟩ 0 0), (5, .int .i64 (sumAt ws ((memb pr' ws.length).take j))), (7, .int .i64 ws.length), (17, .rsl 1 (ints (memb pr' ws.length))), (132, .rsl 1 (ints (memb pr' ws.length))), (133, .int .i64 (memb pr' ws.length).length), (134, .int .i64 (j : Nat))] ∧ ss = [(4, some ⟨0, 0, 2, [[.int .i64 0, .nilsl]]⟩)] ∧ (j ≤ (memb pr' ws.length).length)) ?_ ?_
        · refine ⟨_, 0, rfl, ?henv, ?hstore, ?hst⟩
          case henv =>
            repeat' (first | rfl | refine env_cons ?_ ?_ | refine st_cons ?_ ?_ ?_ ?_ | refine int_eq ?_ | refine bool_eq ?_ | refine rsl_eq ?_ | refine osl_eq ?_ | refine sl_eq ?_ ?_ ?_ | refine ptr_eq ?_ ?_ ?_ | refine agg_eq ?_ | refine es_cons ?_ ?_ | refine row_cons ?_ ?_)
            all_goals (first | (simp; done) | omega | (simp; omega))
          case hstore =>
            repeat' (first | rfl | refine env_cons ?_ ?_ | refine st_cons ?_ ?_ ?_ ?_ | refine int_eq ?_ | refine bool_eq ?_ | refine rsl_eq ?_ | refine osl_eq ?_ | refine sl_eq ?_ ?_ ?_ | refine ptr_eq ?_ ?_ ?_ | refine agg_eq ?_ | refine es_cons ?_ ?_ | refine row_cons ?_ ?_)
            all_goals (first | (simp; done) | omega | (simp; omega))
          case hst =>
            first | trivial | omega | (simp; done) | (simp; omega)
        rintro mm ee ss kk ⟨j, rfl, rfl, rfl, hI⟩
        generalize hQl3 : thenQ _ _ = Ql3
        refine AW.seq fun K29 hK29 => ?_
        -- region 27
        refine AW.regionK 0 (fun _ => none) [0, 4, 5, 7, 17, 132, 133, 134, 135] [4] ?_
        simp only [go_sem, reduceIte, reduceCtorEq, Nat.reduceAdd, Nat.reduceMul, Nat.reduceEqDiff, Nat.reduceLT, Nat.reduceLeDiff, Nat.reduceSub, Nat.reducePow, Nat.reduceBEq, Int.reduceToNat, List.reduceReplicate]
        repeat with_reducible refine cj ?_ ?_
        all_goals try first | omega
        refine hK29 _ _ _ ?_; clear hK29
        refine AW.seq fun K30 hK30 => ?_
        -- cond 9
        refine AW.cond rfl (by simp only [go_sem, reduceIte, reduceCtorEq, Nat.reduceAdd, Nat.reduceMul, Nat.reduceEqDiff, Nat.reduceLT, Nat.reduceLeDiff, Nat.reduceSub, Nat.reducePow, Nat.reduceBEq, Int.reduceToNat, List.reduceReplicate]) ?_ ?_
        · intro hb
          try simp only [hB, decide_eq_true_eq, decide_eq_false_iff_not] at hb
          obtain ⟨x, hx⟩ := getI (l := memb pr' ws.length) (j := j) (by omega)
          have hgx := ints_get hx
          have hxr := hmr x (List.mem_of_getElem? hx)
          have hgw := ints_getD (l := ws) (i := x.toNat) (by omega)
          have hss := sumAt_succ (ws := ws) hx
          have hsb := sumAt_bnd (by decide : (0 : Int) ≤ 1073741824) hw ((memb pr' ws.length).take j)
          have htl : ((memb pr' ws.length).take j).length ≤ 500 := by simp; omega
          have hwx := hw (ws.getD x.toNat 0) (mem_getD (by omega) 0)
          refine AW.skip ?_
          refine hK30 _ _ _ ?_; clear hK30
          refine AW.seq fun K31 hK31 => ?_
          refine AW.block ?_
          refine AW.seq fun K32 hK32 => ?_
          -- region 28
          refine AW.regionK 0 (fun _ => none) [0, 4, 5, 7, 17, 19, 132, 133, 134] [4] ?_
          simp only [go_sem, reduceIte, reduceCtorEq, Nat.reduceAdd, Nat.reduceMul, Nat.reduceEqDiff, Nat.reduceLT, Nat.reduceLeDiff, Nat.reduceSub, Nat.reducePow, Nat.reduceBEq, Int.reduceToNat, List.reduceReplicate, hgx]
          repeat with_reducible refine cj ?_ ?_
          all_goals try first | omega
          refine hK32 _ _ _ ?_; clear hK32
          -- region 29
          refine AW.regionK 0 (fun _ => none) [0, 4, 5, 7, 17, 132, 133, 134] [4] ?_
          simp only [go_sem, reduceIte, reduceCtorEq, Nat.reduceAdd, Nat.reduceMul, Nat.reduceEqDiff, Nat.reduceLT, Nat.reduceLeDiff, Nat.reduceSub, Nat.reducePow, Nat.reduceBEq, Int.reduceToNat, List.reduceReplicate, hgw]
          repeat with_reducible refine cj ?_ ?_
          all_goals try first | omega
          refine hK31 _ _ _ ?_; clear hK31
          -- region 30
          refine AW.regionK 0 (fun _ => none) [0, 4, 5, 7, 17, 132, 133, 134] [4] ?_
          simp only [go_sem, reduceIte, reduceCtorEq, Nat.reduceAdd, Nat.reduceMul, Nat.reduceEqDiff, Nat.reduceLT, Nat.reduceLeDiff, Nat.reduceSub, Nat.reducePow, Nat.reduceBEq, Int.reduceToNat, List.reduceReplicate]
          repeat with_reducible refine cj ?_ ?_
          all_goals try first | omega
          rw [← hQl3]
          change Exists _
          refine ⟨_, ?hm, j + 1, rfl, ?henv, ?hstore, ?hst⟩
          case henv =>
            repeat' (first | rfl | refine env_cons ?_ ?_ | refine st_cons ?_ ?_ ?_ ?_ | refine int_eq ?_ | refine bool_eq ?_ | refine rsl_eq ?_ | refine osl_eq ?_ | refine sl_eq ?_ ?_ ?_ | refine ptr_eq ?_ ?_ ?_ | refine agg_eq ?_ | refine es_cons ?_ ?_ | refine row_cons ?_ ?_)
            all_goals (rw [hss])
          case hstore =>
            repeat' (first | rfl | refine env_cons ?_ ?_ | refine st_cons ?_ ?_ ?_ ?_ | refine int_eq ?_ | refine bool_eq ?_ | refine rsl_eq ?_ | refine osl_eq ?_ | refine sl_eq ?_ ?_ ?_ | refine ptr_eq ?_ ?_ ?_ | refine agg_eq ?_ | refine es_cons ?_ ?_ | refine row_cons ?_ ?_)
            all_goals (first | (simp; done) | omega | (simp; omega))
          case hst =>
            first | trivial | omega | (simp; done) | (simp; omega)
          case hm => omega
        · intro hb
          try simp only [hB, decide_eq_true_eq, decide_eq_false_iff_not] at hb
          refine AW.exit ?_
          rw [← hQl3]
          refine hK27 _ _ _ ?_; clear hK27
          refine AW.seq fun K33 hK33 => ?_
          -- region 31
          refine AW.regionK 0 (fun i => if i = 2 then some (.reads false (.tup [.agg [.int .i64 ws.length, .rsl 1 (words (ofW ws.length (memb pr' ws.length)))], .int .i64 0])) else none) [4, 5, 6] [4] ?_
          simp only [go_sem, reduceIte, reduceCtorEq, Nat.reduceAdd, Nat.reduceMul, Nat.reduceEqDiff, Nat.reduceLT, Nat.reduceLeDiff, Nat.reduceSub, Nat.reducePow, Nat.reduceBEq, Int.reduceToNat, List.reduceReplicate]
          repeat with_reducible refine cj ?_ ?_
          all_goals try first | (exact hof) | omega | exact ent (by kernel_rfl)
          refine hK33 _ _ _ ?_; clear hK33
          refine AW.seq fun K34 hK34 => ?_
          -- region 32
          refine AW.regionK 0 (fun _ => none) [4, 5, 6] [4] ?_
          simp only [go_sem, reduceIte, reduceCtorEq, Nat.reduceAdd, Nat.reduceMul, Nat.reduceEqDiff, Nat.reduceLT, Nat.reduceLeDiff, Nat.reduceSub, Nat.reducePow, Nat.reduceBEq, Int.reduceToNat, List.reduceReplicate]
          repeat with_reducible refine cj ?_ ?_
          all_goals try first | omega
          refine hK34 _ _ _ ?_; clear hK34
          refine AW.ret ?_
          rw [← hQr]
          simp only [go_sem, reduceIte, reduceCtorEq, Nat.reduceAdd, Nat.reduceMul, Nat.reduceEqDiff, Nat.reduceLT, Nat.reduceLeDiff, Nat.reduceSub, Nat.reducePow, Nat.reduceBEq, Int.reduceToNat, List.reduceReplicate]
          have hj : j = (memb pr' ws.length).length := by omega
          subst hj
          rw [List.take_length]
          exact Wk.refl _
end Go.Proofs.F
/- What the reference computes, over plain lists. -/
namespace Go.AM
def eAt (E : List Edg) (i : Nat) : Edg := E.getD i ⟨0, 0, 0⟩
theorem eAt_of {E : List Edg} {i : Nat} {x : Edg} (h : E[i]? = some x) : eAt E i = x := getD_of h _
theorem eAt_get {E : List Edg} {i : Nat} (h : i < E.length) : E[i]? = some (eAt E i) := by
  unfold eAt; rw [List.getD_eq_getElem?_getD, List.getElem?_eq_getElem h]; rfl
def balStep (E : List Edg) (fl : List Int) (v : Int) (j : Nat) (a : Int) : Int :=
  (if (eAt E j).fr = v then a + fl.getD j 0 else a) - (if (eAt E j).to = v then fl.getD j 0 else 0)
def balAt (E : List Edg) (fl : List Int) (v : Int) : Nat → Int
  | 0 => 0
  | j + 1 => balStep E fl v j (balAt E fl v j)
abbrev bal (n : Net) (fl : List Int) (v : Int) : Int := balAt n.E fl v n.E.length
theorem bal_bnd {E : List Edg} {fl : List Int} {v B : Int} (hB : 0 ≤ B) (h : ∀ i, -B ≤ fl.getD i 0 ∧ fl.getD i 0 ≤ B) : ∀ j : Nat, -(2 * B * j) ≤ balAt E fl v j ∧ balAt E fl v j ≤ 2 * B * j
  | 0 => by simp [balAt]
  | j + 1 => by
    have ih := bal_bnd (E := E) (v := v) hB h j
    have := h j
    simp only [balAt, balStep]
    rw [Int.natCast_succ, Int.mul_add]
    split <;> split <;> omega
def capsB (E : List Edg) (fl : List Int) (j : Nat) : Bool := (List.range j).all fun i => decide (0 ≤ fl.getD i 0) && decide (fl.getD i 0 ≤ (eAt E i).cap)
def consB (n : Net) (s t : Int) (fl : List Int) (j : Nat) : Bool := (List.range j).all fun v => decide ((v : Int) = s) || decide ((v : Int) = t) || decide (bal n fl v = 0)
def flowB (n : Net) (s t : Int) (fl : List Int) : Bool := decide (fl.length = n.E.length) && capsB n.E fl n.E.length && consB n s t fl n.N.toNat
theorem range_all_succ {p : Nat → Bool} (j : Nat) : (List.range (j + 1)).all p = ((List.range j).all p && p j) := by
  rw [List.range_succ, List.all_append]; simp
theorem range_all_false {p : Nat → Bool} {j m : Nat} (h : j < m) (hp : p j = false) : (List.range m).all p = false := by
  rw [List.all_eq_false]; exact ⟨j, List.mem_range.2 h, by simp [hp]⟩

abbrev RSt := List Bool × List Int × List Int
def rA (E : List Edg) (fl : List Int) (v : Int) (i : Nat) (st : RSt) : RSt :=
  if (eAt E i).fr = v ∧ fl.getD i 0 < (eAt E i).cap ∧ st.1.getD (eAt E i).to.toNat false = false then (st.1.set (eAt E i).to.toNat true, st.2.1.set (eAt E i).to.toNat i, st.2.2 ++ [(eAt E i).to]) else st
def rB (E : List Edg) (fl : List Int) (v : Int) (i : Nat) (st : RSt) : RSt :=
  if (eAt E i).to = v ∧ 0 < fl.getD i 0 ∧ st.1.getD (eAt E i).fr.toNat false = false then (st.1.set (eAt E i).fr.toNat true, st.2.1.set (eAt E i).fr.toNat (-2 - (i : Int)), st.2.2 ++ [(eAt E i).fr]) else st
def rScan (E : List Edg) (fl : List Int) (v : Int) : Nat → RSt → RSt
  | 0, st => st
  | j + 1, st => rB E fl v j (rA E fl v j (rScan E fl v j st))
def rbfs (E : List Edg) (fl : List Int) : Nat → RSt → Option (List Bool × List Int)
  | 0, st => if st.2.2 = [] then some (st.1, st.2.1) else none
  | f + 1, st => match st.2.2 with
    | [] => some (st.1, st.2.1)
    | v :: rest => rbfs E fl f (rScan E fl v E.length (st.1, st.2.1, rest))
def r0 (N : Nat) (s : Int) : RSt := ((List.replicate N false).set s.toNat true, List.replicate N (-1), [s])
def rReach (n : Net) (s : Int) (fl : List Int) : Option (List Bool × List Int) := rbfs n.E fl (n.N.toNat + 1) (r0 n.N.toNat s)
structure WfS (N : Nat) (st : RSt) : Prop where
  len1 : st.1.length = N
  len2 : st.2.1.length = N
  rng : ∀ v ∈ st.2.2, 0 ≤ v ∧ v < N
  cnt : st.1.count false + st.2.2.length ≤ N
theorem count_setT {l : List Bool} {i : Nat} (h : l.getD i true = false) : (l.set i true).count false + 1 = l.count false := by
  have hi : i < l.length := by
    rcases Nat.lt_or_ge i l.length with h1 | h1
    · exact h1
    · rw [getD_out h1] at h; simp at h
  have h2 : l[i] = false := by rw [List.getD_eq_getElem?_getD, List.getElem?_eq_getElem hi] at h; exact h
  have h3 : 0 < l.count false := List.count_pos_iff.2 (h2 ▸ List.getElem_mem hi)
  rw [List.count_set hi]
  simp [h2]
  omega
theorem getD_dflt {α : Type} {l : List α} {i : Nat} (h : i < l.length) (a b : α) : l.getD i a = l.getD i b := by
  simp [List.getD_eq_getElem?_getD, h]
theorem WfS.push {N : Nat} {st : RSt} (h : WfS N st) {w b : Int} (h0 : 0 ≤ w) (h1 : w < N) (hs : st.1.getD w.toNat false = false) : WfS N (st.1.set w.toNat true, st.2.1.set w.toNat b, st.2.2 ++ [w]) := by
  refine ⟨by simp [h.len1], by simp [h.len2], fun v hv => ?_, ?_⟩
  · simp only [List.mem_append, List.mem_singleton] at hv
    rcases hv with hv | rfl
    · exact h.rng v hv
    · exact ⟨h0, h1⟩
  · have := count_setT (l := st.1) (i := w.toNat) (by rw [getD_dflt (by have := h.len1; omega) true false]; exact hs)
    have := h.cnt
    simp only [List.length_append, List.length_singleton]
    omega
theorem WfS.rA {E : List Edg} {fl : List Int} {v : Int} {i N : Nat} {st : RSt} (h : WfS N st) (hx : 0 ≤ (eAt E i).to ∧ (eAt E i).to < N) : WfS N (rA E fl v i st) := by
  unfold AM.rA; split
  · rename_i hc; exact h.push hx.1 hx.2 hc.2.2
  · exact h
theorem WfS.rB {E : List Edg} {fl : List Int} {v : Int} {i N : Nat} {st : RSt} (h : WfS N st) (hx : 0 ≤ (eAt E i).fr ∧ (eAt E i).fr < N) : WfS N (rB E fl v i st) := by
  unfold AM.rB; split
  · rename_i hc; exact h.push hx.1 hx.2 hc.2.2
  · exact h
theorem count_rep (N : Nat) : (List.replicate N false).count false = N := by simp
theorem WfS.start {N : Nat} {s : Int} (h0 : 0 ≤ s) (h1 : s < N) : WfS N (r0 N s) := by
  refine ⟨by simp [r0], by simp [r0], fun v hv => by simp [r0] at hv; omega, ?_⟩
  have := count_setT (l := List.replicate N false) (i := s.toNat) (by rw [List.getD_eq_getElem?_getD, List.getElem?_eq_getElem (by simp; omega)]; simp)
  rw [count_rep] at this
  simp only [r0, List.length_singleton]
  omega
end Go.AM
namespace Go.AM
theorem noOslP_ints (l : List Int) : noOslP (ints l) := by
  intro cs hcs a ha
  simp only [ints, List.mem_map] at hcs
  obtain ⟨x, _, rfl⟩ := hcs
  simp at ha; subst ha; trivial
theorem drop_cons_get {l rest : List Int} {o : Nat} {v : Int} (h : l.drop o = v :: rest) : l[o]? = some v ∧ l.drop (o + 1) = rest ∧ l.length = o + rest.length + 1 := by
  have h1 : l[o]? = some v := by
    have := congrArg (fun l => l[0]?) h
    simpa using this
  refine ⟨h1, ?_, ?_⟩
  · have := congrArg (List.drop 1) h
    simpa using this
  · have h3 := (List.getElem?_eq_some_iff.1 h1).1
    have h2 := congrArg List.length h
    simp at h2
    omega
end Go.AM
namespace Go.AM
def rTrace (E : List Edg) (pr : List Int) (s : Int) : Nat → Int → Option (List Int)
  | 0, _ => none
  | f + 1, v => if v = s then some [] else
    if 0 ≤ pr.getD v.toNat 0 then (rTrace E pr s f (eAt E (pr.getD v.toNat 0).toNat).fr).map (pr.getD v.toNat 0 :: ·)
    else if pr.getD v.toNat 0 ≤ -2 then (rTrace E pr s f (eAt E (-2 - pr.getD v.toNat 0).toNat).to).map (pr.getD v.toNat 0 :: ·) else none
def room (E : List Edg) (fl : List Int) (b : Int) : Int := if 0 ≤ b then (eAt E b.toNat).cap - fl.getD b.toNat 0 else fl.getD (-2 - b).toNat 0
def mn (a b : Int) : Int := if b < a then b else a
def rMost (E : List Edg) (fl : List Int) (tr : List Int) : Int := tr.foldl (fun m b => mn m (room E fl b)) 1125899906842624
def rPut (m : Int) (fl : List Int) (b : Int) : List Int := if 0 ≤ b then fl.set b.toNat (fl.getD b.toNat 0 + m) else fl.set (-2 - b).toNat (fl.getD (-2 - b).toNat 0 - m)
def rAug (m : Int) (fl : List Int) (tr : List Int) : List Int := tr.foldl (rPut m) fl
def rMaxP (n : Net) (s t : Int) : Nat → List Int → Option (List Int)
  | 0, _ => none
  | f + 1, fl => match rReach n s fl with
    | none => none
    | some r => if r.1.getD t.toNat false = false then some fl else match rTrace n.E r.2 s (n.N.toNat + 1) t with
      | none => none
      | some tr => rMaxP n s t f (rAug (rMost n.E fl tr) fl tr)
structure RefOk (n : Net) (s t : Int) (Inv : List Int → Prop) : Prop where
  wf : ∀ fl, Inv fl → fl.length = n.E.length ∧ ∀ i, 0 ≤ fl.getD i 0 ∧ fl.getD i 0 ≤ 1125899906842624
  by_ : ∀ fl r, Inv fl → rReach n s fl = some r → r.1.length = n.N.toNat ∧ r.2.length = n.N.toNat ∧ ∀ b ∈ r.2, b < n.E.length ∧ -2 - b < n.E.length
  step : ∀ fl r tr, Inv fl → rReach n s fl = some r → r.1.getD t.toNat false = true → rTrace n.E r.2 s (n.N.toNat + 1) t = some tr → 0 ≤ rMost n.E fl tr ∧ rMost n.E fl tr ≤ 1125899906842624 ∧ Inv (rAug (rMost n.E fl tr) fl tr)
theorem rTrace_stop {E : List Edg} {pr : List Int} {s : Int} {f : Nat} {ks : List Int} (h : rTrace E pr s f s = some ks) : ks = [] := by
  cases f with
  | zero => cases h
  | succ f => unfold rTrace at h; rw [if_pos rfl] at h; simpa using h.symm
theorem rTrace_step {E : List Edg} {pr : List Int} {s v : Int} {f : Nat} {ks : List Int} (h : rTrace E pr s f v = some ks) (hv : v ≠ s) : ∃ f' l, f = f' + 1 ∧ ks = pr.getD v.toNat 0 :: l ∧
    ((0 ≤ pr.getD v.toNat 0 ∧ rTrace E pr s f' (eAt E (pr.getD v.toNat 0).toNat).fr = some l) ∨ (pr.getD v.toNat 0 ≤ -2 ∧ rTrace E pr s f' (eAt E (-2 - pr.getD v.toNat 0).toNat).to = some l)) := by
  cases f with
  | zero => cases h
  | succ f =>
    unfold rTrace at h
    rw [if_neg hv] at h
    split at h
    · rename_i h1
      cases hp : rTrace E pr s f (eAt E (pr.getD v.toNat 0).toNat).fr with
      | none => rw [hp] at h; cases h
      | some l => rw [hp] at h; simp at h; exact ⟨f, l, rfl, h.symm, .inl ⟨h1, hp⟩⟩
    · split at h
      · rename_i h1
        cases hp : rTrace E pr s f (eAt E (-2 - pr.getD v.toNat 0).toNat).to with
        | none => rw [hp] at h; cases h
        | some l => rw [hp] at h; simp at h; exact ⟨f, l, rfl, h.symm, .inr ⟨h1, hp⟩⟩
      · cases h
theorem rTrace_len {E : List Edg} {pr : List Int} {s : Int} : ∀ {f : Nat} {v : Int} {ks : List Int}, rTrace E pr s f v = some ks → ks.length < f
  | 0, v, ks, h => by cases h
  | f + 1, v, ks, h => by
    by_cases hv : v = s
    · subst hv; rw [rTrace_stop h]; simp
    · obtain ⟨f', l, h1, rfl, h2⟩ := rTrace_step h hv
      have : f' = f := by omega
      subst this
      rcases h2 with ⟨_, h2⟩ | ⟨_, h2⟩ <;> (have := rTrace_len h2; simp; omega)
theorem rMost_snoc (E : List Edg) (fl ks : List Int) (b : Int) : rMost E fl (ks ++ [b]) = mn (rMost E fl ks) (room E fl b) := by simp [rMost]
theorem rAug_snoc (m : Int) (fl ks : List Int) (b : Int) : rAug m fl (ks ++ [b]) = rPut m (rAug m fl ks) b := by simp [rAug]
theorem rPut_len (m : Int) (fl : List Int) (b : Int) : (rPut m fl b).length = fl.length := by unfold rPut; split <;> simp
theorem rAug_len (m : Int) (fl ks : List Int) : (rAug m fl ks).length = fl.length := by
  induction ks generalizing fl with
  | nil => rfl
  | cons k ks ih => show (rAug m (rPut m fl k) ks).length = _; rw [ih, rPut_len]
theorem set_getD_bnd {l : List Int} {B x : Int} (h : ∀ i, -B ≤ l.getD i 0 ∧ l.getD i 0 ≤ B) (hx : -B ≤ x ∧ x ≤ B) (k i : Nat) : -B ≤ (l.set k x).getD i 0 ∧ (l.set k x).getD i 0 ≤ B := by
  by_cases hk : k = i
  · subst hk
    by_cases h2 : k < l.length
    · rw [Go.AM.getD_set_eq h2]; exact hx
    · rw [List.set_eq_of_length_le (by omega)]; exact h k
  · rw [Go.AM.getD_set_ne hk]; exact h i
theorem rPut_bnd {m B : Int} {fl : List Int} (h : ∀ i, -B ≤ fl.getD i 0 ∧ fl.getD i 0 ≤ B) (hm : 0 ≤ m) (b : Int) : ∀ i, -(B + m) ≤ (rPut m fl b).getD i 0 ∧ (rPut m fl b).getD i 0 ≤ B + m := by
  intro i
  have h' : ∀ i, -(B + m) ≤ fl.getD i 0 ∧ fl.getD i 0 ≤ B + m := fun i => by have := h i; omega
  unfold rPut; split
  · exact set_getD_bnd h' (by have := h b.toNat; omega) _ i
  · exact set_getD_bnd h' (by have := h (-2 - b).toNat; omega) _ i
end Go.AM
