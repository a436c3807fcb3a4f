/- Lemmas and contracts, part 4: an abstract machine over the model, and the functions that the statement reaches. -/
import Derived.Test.YtjccpgehkjmacaaFlowPathsP3
set_option linter.unusedVariables false
set_option linter.unusedSimpArgs false
namespace Go.Proofs.F
open Go.AM Go
set_option maxRecDepth 100000
set_option maxHeartbeats 1000000
theorem bal_r (n : Net) (fl : List Int) (v : Int) (hE : n.E.length ≤ 2000) (hl : fl.length = n.E.length) (hB : ∀ i, -1125899906842624 ≤ fl.getD i 0 ∧ fl.getD i 0 ≤ 1125899906842624) :
    Reads Try.prog 41 false [netV n, .rsl 1 (ints fl), .int .i64 v] (.int .i64 (bal n fl v)) := by
  unfold netV
  have hbb := fun j => bal_bnd (E := n.E) (v := v) (by decide : (0 : Int) ≤ 1125899906842624) hB j
  refine Reads.body (rs := [.tmp 6]) Try.func41 rfl Try.ntmps41 rfl (by simp) ?_
  generalize hQr : retQ _ _ _ = Qr
  refine AW.seq fun K1 hK1 => ?_
  -- region 0
  refine AW.regionK 0 (fun _ => none) [1, 2, 3] [3] ?_
  simp only [go_sem, reduceIte, reduceCtorEq, Nat.reduceAdd, Nat.reduceMul, Nat.reduceEqDiff, Nat.reduceLT, Nat.reduceLeDiff, Nat.reduceSub, Nat.reducePow, Nat.reduceBEq, Int.reduceToNat, List.reduceReplicate]
  repeat with_reducible refine cj ?_ ?_
  all_goals try first | omega
  refine hK1 _ _ _ ?_; clear hK1
  refine AW.seq fun K2 hK2 => ?_
  -- region 1
  refine AW.regionK 0 (fun _ => none) [1, 2, 3, 7] [3] ?_
  simp only [go_sem, reduceIte, reduceCtorEq, Nat.reduceAdd, Nat.reduceMul, Nat.reduceEqDiff, Nat.reduceLT, Nat.reduceLeDiff, Nat.reduceSub, Nat.reducePow, Nat.reduceBEq, Int.reduceToNat, List.reduceReplicate]
  repeat with_reducible refine cj ?_ ?_
  all_goals try first | omega
  refine hK2 _ _ _ ?_; clear hK2
  refine AW.seq fun K3 hK3 => ?_
  refine AW.seq fun K4 hK4 => ?_
  -- region 2
  refine AW.regionK 0 (fun _ => none) [1, 2, 3, 7, 8] [3] ?_
  simp only [go_sem, reduceIte, reduceCtorEq, Nat.reduceAdd, Nat.reduceMul, Nat.reduceEqDiff, Nat.reduceLT, Nat.reduceLeDiff, Nat.reduceSub, Nat.reducePow, Nat.reduceBEq, Int.reduceToNat, List.reduceReplicate]
  repeat with_reducible refine cj ?_ ?_
  all_goals try first | omega
  refine hK4 _ _ _ ?_; clear hK4
  refine AW.block ?_
  -- loop 1
  refine AW.loopE (fun mm ee ss kk => ∃ (j g w : Nat), n.E.length - j = mm ∧ ee = [(1, .rsl 1 (ints fl)), (2, .int .i64 v), (3, .ptr ⟨3, g, none⟩ 0 0), (7, .int .i64 (balAt n.E fl v j)), (8, .int .i64 (j : Nat))] ∧ ss = [(3, some ⟨g, w, 2, [[.int .i64 n.N, .rsl 3 (n.E.map edgeV)]]⟩)] ∧ (j ≤ n.E.length)) ?_ ?_
  · refine ⟨_, 0, ?_, ?_, rfl, ?henv, ?hstore, ?hst⟩
    case henv =>
      repeat' (first | rfl | refine env_cons ?_ ?_ | refine st_cons ?_ ?_ ?_ ?_ | refine int_eq ?_ | refine bool_eq ?_ | refine rsl_eq ?_ | refine osl_eq ?_ | refine sl_eq ?_ ?_ ?_ | refine ptr_eq ?_ ?_ ?_ | refine agg_eq ?_ | refine es_cons ?_ ?_ | refine row_cons ?_ ?_)
      all_goals (first | (simp; done) | omega | (simp; omega))
    case hstore =>
      repeat' (first | rfl | refine env_cons ?_ ?_ | refine st_cons ?_ ?_ ?_ ?_ | refine int_eq ?_ | refine bool_eq ?_ | refine rsl_eq ?_ | refine osl_eq ?_ | refine sl_eq ?_ ?_ ?_ | refine ptr_eq ?_ ?_ ?_ | refine agg_eq ?_ | refine es_cons ?_ ?_ | refine row_cons ?_ ?_)
      all_goals (first | (simp; done) | omega | (simp; omega))
    case hst =>
      first | trivial | omega | (simp; done) | (simp; omega)
  rintro mm ee ss kk ⟨j, g, w, rfl, rfl, rfl, hI⟩
  generalize hQl1 : thenQ _ _ = Ql1
  refine AW.seq fun K5 hK5 => ?_
  refine AW.seq fun K6 hK6 => ?_
  -- region 3
  refine AW.regionK 0 (fun _ => none) [1, 2, 3, 7, 8, 13] [3] ?_
  simp only [go_sem, reduceIte, reduceCtorEq, Nat.reduceAdd, Nat.reduceMul, Nat.reduceEqDiff, Nat.reduceLT, Nat.reduceLeDiff, Nat.reduceSub, Nat.reducePow, Nat.reduceBEq, Int.reduceToNat, List.reduceReplicate]
  repeat with_reducible refine cj ?_ ?_
  all_goals try first | omega
  refine hK6 _ _ _ ?_; clear hK6
  -- cond 1
  refine AW.cond rfl (by simp only [go_sem, reduceIte, reduceCtorEq, Nat.reduceAdd, Nat.reduceMul, Nat.reduceEqDiff, Nat.reduceLT, Nat.reduceLeDiff, Nat.reduceSub, Nat.reducePow, Nat.reduceBEq, Int.reduceToNat, List.reduceReplicate]) ?_ ?_
  · intro hb
    try simp only [hB, decide_eq_true_eq, decide_eq_false_iff_not] at hb
    obtain ⟨x, hx⟩ := getI (l := n.E) (j := j) (by omega)
    have hxv := getV (f := edgeV) hx
    have hea := eAt_of hx
    have hgf := ints_getD (l := fl) (i := j) (by omega)
    have hbs : balAt n.E fl v (j + 1) = balStep n.E fl v j (balAt n.E fl v j) := rfl
    have hb0 := hbb j
    have hb1 := hB j
    have hj2 : (j : Int) < 2000 := by omega
    rw [balStep, hea] at hbs
    generalize hbj : balAt n.E fl v j = bj at *
    refine AW.skip ?_
    refine hK5 _ _ _ ?_; clear hK5
    refine AW.seq fun K7 hK7 => ?_
    refine AW.block ?_
    refine AW.seq fun K8 hK8 => ?_
    refine AW.seq fun K9 hK9 => ?_
    -- region 5
    refine AW.regionK 0 (fun _ => none) [1, 2, 3, 7, 8, 23] [3] ?_
    simp only [go_sem, reduceIte, reduceCtorEq, Nat.reduceAdd, Nat.reduceMul, Nat.reduceEqDiff, Nat.reduceLT, Nat.reduceLeDiff, Nat.reduceSub, Nat.reducePow, Nat.reduceBEq, Int.reduceToNat, List.reduceReplicate, hxv, edgeV]
    repeat with_reducible refine cj ?_ ?_
    all_goals try first | omega
    refine hK9 _ _ _ ?_; clear hK9
    -- cond 2
    refine AW.cond rfl (by simp only [go_sem, reduceIte, reduceCtorEq, Nat.reduceAdd, Nat.reduceMul, Nat.reduceEqDiff, Nat.reduceLT, Nat.reduceLeDiff, Nat.reduceSub, Nat.reducePow, Nat.reduceBEq, Int.reduceToNat, List.reduceReplicate]) ?_ ?_
    · intro hb
      try simp only [hB, decide_eq_true_eq, decide_eq_false_iff_not] at hb
      rw [if_pos hb] at hbs
      -- region 6
      refine AW.regionK 0 (fun _ => none) [1, 2, 3, 7, 8] [3] ?_
      simp only [go_sem, reduceIte, reduceCtorEq, Nat.reduceAdd, Nat.reduceMul, Nat.reduceEqDiff, Nat.reduceLT, Nat.reduceLeDiff, Nat.reduceSub, Nat.reducePow, Nat.reduceBEq, Int.reduceToNat, List.reduceReplicate, hgf]
      repeat with_reducible refine cj ?_ ?_
      all_goals try first | omega
      refine hK8 _ _ _ ?_; clear hK8
      refine AW.seq fun K10 hK10 => ?_
      -- region 7
      refine AW.regionK 0 (fun _ => none) [1, 2, 3, 7, 8, 37] [3] ?_
      simp only [go_sem, reduceIte, reduceCtorEq, Nat.reduceAdd, Nat.reduceMul, Nat.reduceEqDiff, Nat.reduceLT, Nat.reduceLeDiff, Nat.reduceSub, Nat.reducePow, Nat.reduceBEq, Int.reduceToNat, List.reduceReplicate, hxv, edgeV]
      repeat with_reducible refine cj ?_ ?_
      all_goals try first | omega
      refine hK10 _ _ _ ?_; clear hK10
      -- cond 3
      refine AW.cond rfl (by simp only [go_sem, reduceIte, reduceCtorEq, Nat.reduceAdd, Nat.reduceMul, Nat.reduceEqDiff, Nat.reduceLT, Nat.reduceLeDiff, Nat.reduceSub, Nat.reducePow, Nat.reduceBEq, Int.reduceToNat, List.reduceReplicate]) ?_ ?_
      · intro hb
        try simp only [hB, decide_eq_true_eq, decide_eq_false_iff_not] at hb
        rw [if_pos hb] at hbs
        -- region 8
        refine AW.regionK 0 (fun _ => none) [1, 2, 3, 7, 8] [3] ?_
        simp only [go_sem, reduceIte, reduceCtorEq, Nat.reduceAdd, Nat.reduceMul, Nat.reduceEqDiff, Nat.reduceLT, Nat.reduceLeDiff, Nat.reduceSub, Nat.reducePow, Nat.reduceBEq, Int.reduceToNat, List.reduceReplicate, hgf]
        repeat with_reducible refine cj ?_ ?_
        all_goals try first | omega
        refine hK7 _ _ _ ?_; clear hK7
        -- region 4
        refine AW.regionK 0 (fun _ => none) [1, 2, 3, 7, 8] [3] ?_
        simp only [go_sem, reduceIte, reduceCtorEq, Nat.reduceAdd, Nat.reduceMul, Nat.reduceEqDiff, Nat.reduceLT, Nat.reduceLeDiff, Nat.reduceSub, Nat.reducePow, Nat.reduceBEq, Int.reduceToNat, List.reduceReplicate]
        repeat with_reducible refine cj ?_ ?_
        all_goals try first | omega
        rw [← hQl1]
        change Exists _
        refine ⟨_, ?hm, j + 1, ?_, ?_, rfl, ?henv, ?hstore, ?hst⟩
        case henv =>
          repeat' (first | rfl | refine env_cons ?_ ?_ | refine st_cons ?_ ?_ ?_ ?_ | refine int_eq ?_ | refine bool_eq ?_ | refine rsl_eq ?_ | refine osl_eq ?_ | refine sl_eq ?_ ?_ ?_ | refine ptr_eq ?_ ?_ ?_ | refine agg_eq ?_ | refine es_cons ?_ ?_ | refine row_cons ?_ ?_)
          all_goals (rw [hbs]; try omega)
        case hstore =>
          repeat' (first | rfl | refine env_cons ?_ ?_ | refine st_cons ?_ ?_ ?_ ?_ | refine int_eq ?_ | refine bool_eq ?_ | refine rsl_eq ?_ | refine osl_eq ?_ | refine sl_eq ?_ ?_ ?_ | refine ptr_eq ?_ ?_ ?_ | refine agg_eq ?_ | refine es_cons ?_ ?_ | refine row_cons ?_ ?_)
          all_goals (first | (simp; done) | omega | (simp; omega))
        case hst =>
          first | trivial | omega | (simp; done) | (simp; omega)
        case hm => omega
      · intro hb
        try simp only [hB, decide_eq_true_eq, decide_eq_false_iff_not] at hb
        rw [if_neg hb] at hbs
        refine AW.skip ?_
        refine hK7 _ _ _ ?_; clear hK7
        -- region 4
        refine AW.regionK 0 (fun _ => none) [1, 2, 3, 7, 8] [3] ?_
        simp only [go_sem, reduceIte, reduceCtorEq, Nat.reduceAdd, Nat.reduceMul, Nat.reduceEqDiff, Nat.reduceLT, Nat.reduceLeDiff, Nat.reduceSub, Nat.reducePow, Nat.reduceBEq, Int.reduceToNat, List.reduceReplicate]
        repeat with_reducible refine cj ?_ ?_
        all_goals try first | omega
        rw [← hQl1]
        change Exists _
        refine ⟨_, ?hm, j + 1, ?_, ?_, rfl, ?henv, ?hstore, ?hst⟩
        case henv =>
          repeat' (first | rfl | refine env_cons ?_ ?_ | refine st_cons ?_ ?_ ?_ ?_ | refine int_eq ?_ | refine bool_eq ?_ | refine rsl_eq ?_ | refine osl_eq ?_ | refine sl_eq ?_ ?_ ?_ | refine ptr_eq ?_ ?_ ?_ | refine agg_eq ?_ | refine es_cons ?_ ?_ | refine row_cons ?_ ?_)
          all_goals (rw [hbs]; try omega)
        case hstore =>
          repeat' (first | rfl | refine env_cons ?_ ?_ | refine st_cons ?_ ?_ ?_ ?_ | refine int_eq ?_ | refine bool_eq ?_ | refine rsl_eq ?_ | refine osl_eq ?_ | refine sl_eq ?_ ?_ ?_ | refine ptr_eq ?_ ?_ ?_ | refine agg_eq ?_ | refine es_cons ?_ ?_ | refine row_cons ?_ ?_)
          all_goals (first | (simp; done) | omega | (simp; omega))
        case hst =>
          first | trivial | omega | (simp; done) | (simp; omega)
        case hm => omega
    · intro hb
      try simp only [hB, decide_eq_true_eq, decide_eq_false_iff_not] at hb
      rw [if_neg hb] at hbs
      refine AW.skip ?_
      refine hK8 _ _ _ ?_; clear hK8
      refine AW.seq fun K11 hK11 => ?_
      -- region 7
      refine AW.regionK 0 (fun _ => none) [1, 2, 3, 7, 8, 37] [3] ?_
      simp only [go_sem, reduceIte, reduceCtorEq, Nat.reduceAdd, Nat.reduceMul, Nat.reduceEqDiff, Nat.reduceLT, Nat.reduceLeDiff, Nat.reduceSub, Nat.reducePow, Nat.reduceBEq, Int.reduceToNat, List.reduceReplicate, hxv, edgeV]
      repeat with_reducible refine cj ?_ ?_
      all_goals try first | omega
      refine hK11 _ _ _ ?_; clear hK11
      -- cond 3
      refine AW.cond rfl (by simp only [go_sem, reduceIte, reduceCtorEq, Nat.reduceAdd, Nat.reduceMul, Nat.reduceEqDiff, Nat.reduceLT, Nat.reduceLeDiff, Nat.reduceSub, Nat.reducePow, Nat.reduceBEq, Int.reduceToNat, List.reduceReplicate]) ?_ ?_
      · intro hb
        try simp only [hB, decide_eq_true_eq, decide_eq_false_iff_not] at hb
        rw [if_pos hb] at hbs
        -- region 8
        refine AW.regionK 0 (fun _ => none) [1, 2, 3, 7, 8] [3] ?_
        simp only [go_sem, reduceIte, reduceCtorEq, Nat.reduceAdd, Nat.reduceMul, Nat.reduceEqDiff, Nat.reduceLT, Nat.reduceLeDiff, Nat.reduceSub, Nat.reducePow, Nat.reduceBEq, Int.reduceToNat, List.reduceReplicate, hgf]
        repeat with_reducible refine cj ?_ ?_
        all_goals try first | omega
        refine hK7 _ _ _ ?_; clear hK7
        -- region 4
        refine AW.regionK 0 (fun _ => none) [1, 2, 3, 7, 8] [3] ?_
        simp only [go_sem, reduceIte, reduceCtorEq, Nat.reduceAdd, Nat.reduceMul, Nat.reduceEqDiff, Nat.reduceLT, Nat.reduceLeDiff, Nat.reduceSub, Nat.reducePow, Nat.reduceBEq, Int.reduceToNat, List.reduceReplicate]
        repeat with_reducible refine cj ?_ ?_
        all_goals try first | omega
        rw [← hQl1]
        change Exists _
        refine ⟨_, ?hm, j + 1, ?_, ?_, rfl, ?henv, ?hstore, ?hst⟩
        case henv =>
          repeat' (first | rfl | refine env_cons ?_ ?_ | refine st_cons ?_ ?_ ?_ ?_ | refine int_eq ?_ | refine bool_eq ?_ | refine rsl_eq ?_ | refine osl_eq ?_ | refine sl_eq ?_ ?_ ?_ | refine ptr_eq ?_ ?_ ?_ | refine agg_eq ?_ | refine es_cons ?_ ?_ | refine row_cons ?_ ?_)
          all_goals (rw [hbs]; try omega)
        case hstore =>
          repeat' (first | rfl | refine env_cons ?_ ?_ | refine st_cons ?_ ?_ ?_ ?_ | refine int_eq ?_ | refine bool_eq ?_ | refine rsl_eq ?_ | refine osl_eq ?_ | refine sl_eq ?_ ?_ ?_ | refine ptr_eq ?_ ?_ ?_ | refine agg_eq ?_ | refine es_cons ?_ ?_ | refine row_cons ?_ ?_)
          all_goals (first | (simp; done) | omega | (simp; omega))
        case hst =>
          first | trivial | omega | (simp; done) | (simp; omega)
        case hm => omega
      · intro hb
        try simp only [hB, decide_eq_true_eq, decide_eq_false_iff_not] at hb
        rw [if_neg hb] at hbs
        refine AW.skip ?_
        refine hK7 _ _ _ ?_; clear hK7
        -- region 4
        refine AW.regionK 0 (fun _ => none) [1, 2, 3, 7, 8] [3] ?_
        simp only [go_sem, reduceIte, reduceCtorEq, Nat.reduceAdd, Nat.reduceMul, Nat.reduceEqDiff, Nat.reduceLT, Nat.reduceLeDiff, Nat.reduceSub, Nat.reducePow, Nat.reduceBEq, Int.reduceToNat, List.reduceReplicate]
        repeat with_reducible refine cj ?_ ?_
        all_goals try first | omega
        rw [← hQl1]
        change Exists _
        refine ⟨_, ?hm, j + 1, ?_, ?_, rfl, ?henv, ?hstore, ?hst⟩
        case henv =>
          repeat' (first | rfl | refine env_cons ?_ ?_ | refine st_cons ?_ ?_ ?_ ?_ | refine int_eq ?_ | refine bool_eq ?_ | refine rsl_eq ?_ | refine osl_eq ?_ | refine sl_eq ?_ ?_ ?_ | refine ptr_eq ?_ ?_ ?_ | refine agg_eq ?_ | refine es_cons ?_ ?_ | refine row_cons ?_ ?_)
          all_goals (rw [hbs]; try omega)
        case hstore =>
          repeat' (first | rfl | refine env_cons ?_ ?_ | refine st_cons ?_ ?_ ?_ ?_ | refine int_eq ?_ | refine bool_eq ?_ | refine rsl_eq ?_ | refine osl_eq ?_ | refine sl_eq ?_ ?_ ?_ | refine ptr_eq ?_ ?_ ?_ | refine agg_eq ?_ | refine es_cons ?_ ?_ | refine row_cons ?_ ?_)
          all_goals (first | (simp; done) | omega | (simp; omega))
        case hst =>
          first | trivial | omega | (simp; done) | (simp; omega)
        case hm => omega
  · intro hb
    try simp only [hB, decide_eq_true_eq, decide_eq_false_iff_not] at hb
    refine AW.keep [7] [] ?_
    try simp only [go_sem, reduceIte, reduceCtorEq, Nat.reduceAdd, Nat.reduceMul, Nat.reduceEqDiff, Nat.reduceLT, Nat.reduceLeDiff, Nat.reduceSub, Nat.reducePow, Nat.reduceBEq, Int.reduceToNat, List.reduceReplicate]
    refine AW.exit ?_
    rw [← hQl1]
    refine hK3 _ _ _ ?_; clear hK3
    refine AW.seq fun K12 hK12 => ?_
    -- region 9
    refine AW.regionK 0 (fun _ => none) [6] [] ?_
    simp only [go_sem, reduceIte, reduceCtorEq, Nat.reduceAdd, Nat.reduceMul, Nat.reduceEqDiff, Nat.reduceLT, Nat.reduceLeDiff, Nat.reduceSub, Nat.reducePow, Nat.reduceBEq, Int.reduceToNat, List.reduceReplicate]
    repeat with_reducible refine cj ?_ ?_
    all_goals try first | omega
    refine hK12 _ _ _ ?_; clear hK12
    refine AW.ret ?_
    rw [← hQr]
    simp only [go_sem, reduceIte, reduceCtorEq, Nat.reduceAdd, Nat.reduceMul, Nat.reduceEqDiff, Nat.reduceLT, Nat.reduceLeDiff, Nat.reduceSub, Nat.reducePow, Nat.reduceBEq, Int.reduceToNat, List.reduceReplicate]
    have hj : j = n.E.length := by omega
    subst hj
    exact Wk.refl _
theorem val_r (n : Net) (fl : List Int) (s : Int) (hE : n.E.length ≤ 2000) (hl : fl.length = n.E.length) (hB : ∀ i, -1125899906842624 ≤ fl.getD i 0 ∧ fl.getD i 0 ≤ 1125899906842624) :
    Reads Try.prog 16 false [netV n, .int .i64 s, .rsl 1 (ints fl)] (.int .i64 (bal n fl s)) := by
  have h := bal_r n fl s hE hl hB
  unfold netV at *
  refine Reads.body (rs := [.tmp 6]) Try.func16 rfl Try.ntmps16 rfl (by simp) ?_
  generalize hQr : retQ _ _ _ = Qr
  refine AW.seq fun K1 hK1 => ?_
  -- region 0
  refine AW.regionK 0 (fun _ => none) [1, 2, 3] [3] ?_
  simp only [go_sem, reduceIte, reduceCtorEq, Nat.reduceAdd, Nat.reduceMul, Nat.reduceEqDiff, Nat.reduceLT, Nat.reduceLeDiff, Nat.reduceSub, Nat.reducePow, Nat.reduceBEq, Int.reduceToNat, List.reduceReplicate]
  repeat with_reducible refine cj ?_ ?_
  all_goals try first | omega
  refine hK1 _ _ _ ?_; clear hK1
  refine AW.seq fun K2 hK2 => ?_
  -- region 1
  refine AW.regionK 0 (fun i => if i = 3 then some (.reads false (.int .i64 (bal n fl s))) else none) [6] [] ?_
  simp only [go_sem, reduceIte, reduceCtorEq, Nat.reduceAdd, Nat.reduceMul, Nat.reduceEqDiff, Nat.reduceLT, Nat.reduceLeDiff, Nat.reduceSub, Nat.reducePow, Nat.reduceBEq, Int.reduceToNat, List.reduceReplicate]
  repeat with_reducible refine cj ?_ ?_
  all_goals try first | (exact h) | omega | exact ent (by kernel_rfl)
  refine hK2 _ _ _ ?_; clear hK2
  refine AW.ret ?_
  rw [← hQr]
  simp only [go_sem, reduceIte, reduceCtorEq, Nat.reduceAdd, Nat.reduceMul, Nat.reduceEqDiff, Nat.reduceLT, Nat.reduceLeDiff, Nat.reduceSub, Nat.reducePow, Nat.reduceBEq, Int.reduceToNat, List.reduceReplicate]
  exact Wk.refl _
theorem flow_r (n : Net) (s t : Int) (fl : List Int) (hv : validB n = true) (hfl : fl.length ≤ 9223372036854775807) :
    Reads Try.prog 15 false [netV n, .int .i64 s, .int .i64 t, .rsl 1 (ints fl)] (.bool (flowB n s t fl)) := by
  obtain ⟨hN1, hN2, hE⟩ := valid_size hv
  unfold netV
  refine Reads.body (rs := [.tmp 8]) Try.func15 rfl Try.ntmps15 rfl (by simp) ?_
  generalize hQr : retQ _ _ _ = Qr
  refine AW.seq fun K1 hK1 => ?_
  -- region 0
  refine AW.regionK 0 (fun _ => none) [1, 2, 3, 4] [4] ?_
  simp only [go_sem, reduceIte, reduceCtorEq, Nat.reduceAdd, Nat.reduceMul, Nat.reduceEqDiff, Nat.reduceLT, Nat.reduceLeDiff, Nat.reduceSub, Nat.reducePow, Nat.reduceBEq, Int.reduceToNat, List.reduceReplicate]
  repeat with_reducible refine cj ?_ ?_
  all_goals try first | omega
  refine hK1 _ _ _ ?_; clear hK1
  refine AW.seq fun K2 hK2 => ?_
  refine AW.seq fun K3 hK3 => ?_
  -- region 1
  refine AW.regionK 0 (fun _ => none) [1, 2, 3, 4, 16] [4] ?_
  simp only [go_sem, reduceIte, reduceCtorEq, Nat.reduceAdd, Nat.reduceMul, Nat.reduceEqDiff, Nat.reduceLT, Nat.reduceLeDiff, Nat.reduceSub, Nat.reducePow, Nat.reduceBEq, Int.reduceToNat, List.reduceReplicate]
  repeat with_reducible refine cj ?_ ?_
  all_goals try first | omega
  refine hK3 _ _ _ ?_; clear hK3
  -- cond 1
  refine AW.cond rfl (by simp only [go_sem, reduceIte, reduceCtorEq, Nat.reduceAdd, Nat.reduceMul, Nat.reduceEqDiff, Nat.reduceLT, Nat.reduceLeDiff, Nat.reduceSub, Nat.reducePow, Nat.reduceBEq, Int.reduceToNat, List.reduceReplicate]) ?_ ?_
  · intro hb
    try simp only [hB, decide_eq_true_eq, decide_eq_false_iff_not] at hb
    refine AW.seq fun K4 hK4 => ?_
    -- region 2
    refine AW.regionK 0 (fun _ => none) [8] [] ?_
    simp only [go_sem, reduceIte, reduceCtorEq, Nat.reduceAdd, Nat.reduceMul, Nat.reduceEqDiff, Nat.reduceLT, Nat.reduceLeDiff, Nat.reduceSub, Nat.reducePow, Nat.reduceBEq, Int.reduceToNat, List.reduceReplicate]
    repeat with_reducible refine cj ?_ ?_
    all_goals try first | omega
    refine hK4 _ _ _ ?_; clear hK4
    refine AW.ret ?_
    rw [← hQr]
    simp only [go_sem, reduceIte, reduceCtorEq, Nat.reduceAdd, Nat.reduceMul, Nat.reduceEqDiff, Nat.reduceLT, Nat.reduceLeDiff, Nat.reduceSub, Nat.reducePow, Nat.reduceBEq, Int.reduceToNat, List.reduceReplicate]
    exact Wk.of_eq (by congr 1; symm; simp [flowB]; omega)
  · intro hb
    try simp only [hB, decide_eq_true_eq, decide_eq_false_iff_not] at hb
    have hlen : fl.length = n.E.length := by omega
    refine AW.skip ?_
    refine hK2 _ _ _ ?_; clear hK2
    refine AW.seq fun K5 hK5 => ?_
    refine AW.seq fun K6 hK6 => ?_
    -- region 3
    refine AW.regionK 0 (fun _ => none) [1, 2, 3, 4, 9] [4] ?_
    simp only [go_sem, reduceIte, reduceCtorEq, Nat.reduceAdd, Nat.reduceMul, Nat.reduceEqDiff, Nat.reduceLT, Nat.reduceLeDiff, Nat.reduceSub, Nat.reducePow, Nat.reduceBEq, Int.reduceToNat, List.reduceReplicate]
    repeat with_reducible refine cj ?_ ?_
    all_goals try first | omega
    refine hK6 _ _ _ ?_; clear hK6
    refine AW.block ?_
    -- loop 1
    refine AW.loopE (fun mm ee ss kk => ∃ (j g w : Nat), n.E.length - j = mm ∧ ee = [(1, .int .i64 s), (2, .int .i64 t), (3, .rsl 1 (ints fl)), (4, .ptr ⟨4, g, none⟩ 0 0), (9, .int .i64 (j : Nat))] ∧ ss = [(4, some ⟨g, w, 2, [[.int .i64 n.N, .rsl 3 (n.E.map edgeV)]]⟩)] ∧ (j ≤ n.E.length ∧ capsB n.E fl j = true)) ?_ ?_
    · refine ⟨_, 0, ?_, ?_, rfl, ?henv, ?hstore, ?hst⟩
      case henv =>
        repeat' (first | rfl | refine env_cons ?_ ?_ | refine st_cons ?_ ?_ ?_ ?_ | refine int_eq ?_ | refine bool_eq ?_ | refine rsl_eq ?_ | refine osl_eq ?_ | refine sl_eq ?_ ?_ ?_ | refine ptr_eq ?_ ?_ ?_ | refine agg_eq ?_ | refine es_cons ?_ ?_ | refine row_cons ?_ ?_)
        all_goals (first | (simp; done) | omega | (simp; omega))
      case hstore =>
        repeat' (first | rfl | refine env_cons ?_ ?_ | refine st_cons ?_ ?_ ?_ ?_ | refine int_eq ?_ | refine bool_eq ?_ | refine rsl_eq ?_ | refine osl_eq ?_ | refine sl_eq ?_ ?_ ?_ | refine ptr_eq ?_ ?_ ?_ | refine agg_eq ?_ | refine es_cons ?_ ?_ | refine row_cons ?_ ?_)
        all_goals (first | (simp; done) | omega | (simp; omega))
      case hst =>
        exact ⟨Nat.zero_le _, rfl⟩
    rintro mm ee ss kk ⟨j, g, w, rfl, rfl, rfl, hI⟩
    generalize hQl1 : thenQ _ _ = Ql1
    obtain ⟨hj, hc⟩ := hI
    refine AW.seq fun K7 hK7 => ?_
    refine AW.seq fun K8 hK8 => ?_
    -- region 4
    refine AW.regionK 0 (fun _ => none) [1, 2, 3, 4, 9, 20] [4] ?_
    simp only [go_sem, reduceIte, reduceCtorEq, Nat.reduceAdd, Nat.reduceMul, Nat.reduceEqDiff, Nat.reduceLT, Nat.reduceLeDiff, Nat.reduceSub, Nat.reducePow, Nat.reduceBEq, Int.reduceToNat, List.reduceReplicate]
    repeat with_reducible refine cj ?_ ?_
    all_goals try first | omega
    refine hK8 _ _ _ ?_; clear hK8
    -- cond 2
    refine AW.cond rfl (by simp only [go_sem, reduceIte, reduceCtorEq, Nat.reduceAdd, Nat.reduceMul, Nat.reduceEqDiff, Nat.reduceLT, Nat.reduceLeDiff, Nat.reduceSub, Nat.reducePow, Nat.reduceBEq, Int.reduceToNat, List.reduceReplicate]) ?_ ?_
    · intro hb
      try simp only [hB, decide_eq_true_eq, decide_eq_false_iff_not] at hb
      obtain ⟨x, hx⟩ := getI (l := n.E) (j := j) (by omega)
      have hxv := getV (f := edgeV) hx
      have hea := eAt_of hx
      have hgf := ints_getD (l := fl) (i := j) (by omega)
      refine AW.skip ?_
      refine hK7 _ _ _ ?_; clear hK7
      refine AW.seq fun K9 hK9 => ?_
      refine AW.block ?_
      refine AW.seq fun K10 hK10 => ?_
      -- region 6
      refine AW.regionD mixed 0 (fun _ => none) [1, 2, 3, 4, 9, 40] [4] ?_
      simp only [go_sem, reduceIte, reduceCtorEq, Nat.reduceAdd, Nat.reduceMul, Nat.reduceEqDiff, Nat.reduceLT, Nat.reduceLeDiff, Nat.reduceSub, Nat.reducePow, Nat.reduceBEq, Int.reduceToNat, List.reduceReplicate, hxv, edgeV, hgf]
      repeat with_reducible refine cj ?_ ?_
      all_goals try first | omega | exact chk (by kernel_rfl) | (simp only [go_sem, reduceIte, reduceCtorEq, Nat.reduceAdd, Nat.reduceMul, Nat.reduceEqDiff, Nat.reduceLT, Nat.reduceLeDiff, Nat.reduceSub, Nat.reducePow, Nat.reduceBEq, Int.reduceToNat, List.reduceReplicate, hxv, edgeV, hgf]; done) | (simp_all [go_sem]; done)
      refine hK10 _ _ _ ?_; clear hK10
      -- cond 3
      refine AW.cond rfl (by simp only [go_sem, reduceIte, reduceCtorEq, Nat.reduceAdd, Nat.reduceMul, Nat.reduceEqDiff, Nat.reduceLT, Nat.reduceLeDiff, Nat.reduceSub, Nat.reducePow, Nat.reduceBEq, Int.reduceToNat, List.reduceReplicate]) ?_ ?_
      · intro hb
        try simp only [hB, decide_eq_true_eq, decide_eq_false_iff_not] at hb
        refine AW.seq fun K11 hK11 => ?_
        -- region 7
        refine AW.regionK 0 (fun _ => none) [8] [] ?_
        simp only [go_sem, reduceIte, reduceCtorEq, Nat.reduceAdd, Nat.reduceMul, Nat.reduceEqDiff, Nat.reduceLT, Nat.reduceLeDiff, Nat.reduceSub, Nat.reducePow, Nat.reduceBEq, Int.reduceToNat, List.reduceReplicate]
        repeat with_reducible refine cj ?_ ?_
        all_goals try first | omega
        refine hK11 _ _ _ ?_; clear hK11
        refine AW.ret ?_
        rw [← hQl1]
        rw [← hQr]
        simp only [go_sem, reduceIte, reduceCtorEq, Nat.reduceAdd, Nat.reduceMul, Nat.reduceEqDiff, Nat.reduceLT, Nat.reduceLeDiff, Nat.reduceSub, Nat.reducePow, Nat.reduceBEq, Int.reduceToNat, List.reduceReplicate]
        refine Wk.of_eq ?_
        have h1 : capsB n.E fl n.E.length = false := range_all_false (j := j) (by omega) (by rw [hea, Bool.and_eq_false_iff, decide_eq_false_iff_not, decide_eq_false_iff_not]; omega)
        simp [flowB, h1]
      · intro hb
        try simp only [hB, decide_eq_true_eq, decide_eq_false_iff_not] at hb
        refine AW.skip ?_
        refine hK9 _ _ _ ?_; clear hK9
        -- region 5
        refine AW.regionK 0 (fun _ => none) [1, 2, 3, 4, 9] [4] ?_
        simp only [go_sem, reduceIte, reduceCtorEq, Nat.reduceAdd, Nat.reduceMul, Nat.reduceEqDiff, Nat.reduceLT, Nat.reduceLeDiff, Nat.reduceSub, Nat.reducePow, Nat.reduceBEq, Int.reduceToNat, List.reduceReplicate]
        repeat with_reducible refine cj ?_ ?_
        all_goals try first | omega
        rw [← hQl1]
        change Exists _
        refine ⟨_, ?hm, j + 1, ?_, ?_, rfl, ?henv, ?hstore, ?hst⟩
        case henv =>
          repeat' (first | rfl | refine env_cons ?_ ?_ | refine st_cons ?_ ?_ ?_ ?_ | refine int_eq ?_ | refine bool_eq ?_ | refine rsl_eq ?_ | refine osl_eq ?_ | refine sl_eq ?_ ?_ ?_ | refine ptr_eq ?_ ?_ ?_ | refine agg_eq ?_ | refine es_cons ?_ ?_ | refine row_cons ?_ ?_)
          all_goals (first | (simp; done) | omega | (simp; omega))
        case hstore =>
          repeat' (first | rfl | refine env_cons ?_ ?_ | refine st_cons ?_ ?_ ?_ ?_ | refine int_eq ?_ | refine bool_eq ?_ | refine rsl_eq ?_ | refine osl_eq ?_ | refine sl_eq ?_ ?_ ?_ | refine ptr_eq ?_ ?_ ?_ | refine agg_eq ?_ | refine es_cons ?_ ?_ | refine row_cons ?_ ?_)
          all_goals (first | (simp; done) | omega | (simp; omega))
        case hst =>
          refine ⟨by omega, ?_⟩
          unfold capsB at hc ⊢
          rw [range_all_succ, hc, hea]
          simp only [Bool.true_and, Bool.and_eq_true, decide_eq_true_eq]; omega
        case hm => omega
    · intro hb
      try simp only [hB, decide_eq_true_eq, decide_eq_false_iff_not] at hb
      have hjE : n.E.length = j := by omega
      subst hjE
      have hBd : ∀ i, -1125899906842624 ≤ fl.getD i 0 ∧ fl.getD i 0 ≤ 1125899906842624 := by
        intro i
        by_cases hi : i < n.E.length
        · have h1 := List.all_eq_true.1 hc i (List.mem_range.2 hi)
          have h2 := valid_edge hv (eAt_get hi)
          simp only [Bool.and_eq_true, decide_eq_true_eq] at h1
          omega
        · rw [getD_out (by omega)]; omega
      have hbr := fun u => bal_r n fl u hE hlen hBd
      unfold netV at hbr
      refine AW.keep [1, 2, 3, 4] [4] ?_
      try simp only [go_sem, reduceIte, reduceCtorEq, Nat.reduceAdd, Nat.reduceMul, Nat.reduceEqDiff, Nat.reduceLT, Nat.reduceLeDiff, Nat.reduceSub, Nat.reducePow, Nat.reduceBEq, Int.reduceToNat, List.reduceReplicate]
      refine AW.exit ?_
      rw [← hQl1]
      refine hK5 _ _ _ ?_; clear hK5
      refine AW.seq fun K12 hK12 => ?_
      refine AW.seq fun K13 hK13 => ?_
      -- region 8
      refine AW.regionK 0 (fun _ => none) [1, 2, 3, 4, 10] [4] ?_
      simp only [go_sem, reduceIte, reduceCtorEq, Nat.reduceAdd, Nat.reduceMul, Nat.reduceEqDiff, Nat.reduceLT, Nat.reduceLeDiff, Nat.reduceSub, Nat.reducePow, Nat.reduceBEq, Int.reduceToNat, List.reduceReplicate]
      repeat with_reducible refine cj ?_ ?_
      all_goals try first | omega
      refine hK13 _ _ _ ?_; clear hK13
      refine AW.block ?_
      -- loop 2
      refine AW.loopE (fun mm ee ss kk => ∃ (j g w : Nat), n.N.toNat - j = mm ∧ ee = [(1, .int .i64 s), (2, .int .i64 t), (3, .rsl 1 (ints fl)), (4, .ptr ⟨4, g, none⟩ 0 0), (10, .int .i64 (j : Nat))] ∧ ss = [(4, some ⟨g, w, 2, [[.int .i64 n.N, .rsl 3 (n.E.map edgeV)]]⟩)] ∧ (j ≤ n.N.toNat ∧ consB n s t fl j = true)) ?_ ?_
      · refine ⟨_, 0, ?_, ?_, rfl, ?henv, ?hstore, ?hst⟩
        case henv =>
          repeat' (first | rfl | refine env_cons ?_ ?_ | refine st_cons ?_ ?_ ?_ ?_ | refine int_eq ?_ | refine bool_eq ?_ | refine rsl_eq ?_ | refine osl_eq ?_ | refine sl_eq ?_ ?_ ?_ | refine ptr_eq ?_ ?_ ?_ | refine agg_eq ?_ | refine es_cons ?_ ?_ | refine row_cons ?_ ?_)
          all_goals (first | (simp; done) | omega | (simp; omega))
        case hstore =>
          repeat' (first | rfl | refine env_cons ?_ ?_ | refine st_cons ?_ ?_ ?_ ?_ | refine int_eq ?_ | refine bool_eq ?_ | refine rsl_eq ?_ | refine osl_eq ?_ | refine sl_eq ?_ ?_ ?_ | refine ptr_eq ?_ ?_ ?_ | refine agg_eq ?_ | refine es_cons ?_ ?_ | refine row_cons ?_ ?_)
          all_goals (first | (simp; done) | omega | (simp; omega))
        case hst =>
          exact ⟨Nat.zero_le _, rfl⟩
      rintro mm ee ss kk ⟨j, g, w, rfl, rfl, rfl, hI⟩
      generalize hQl2 : thenQ _ _ = Ql2
      obtain ⟨hj2, hc2⟩ := hI
      refine AW.seq fun K14 hK14 => ?_
      refine AW.seq fun K15 hK15 => ?_
      -- region 9
      refine AW.regionK 0 (fun _ => none) [1, 2, 3, 4, 10, 44] [4] ?_
      simp only [go_sem, reduceIte, reduceCtorEq, Nat.reduceAdd, Nat.reduceMul, Nat.reduceEqDiff, Nat.reduceLT, Nat.reduceLeDiff, Nat.reduceSub, Nat.reducePow, Nat.reduceBEq, Int.reduceToNat, List.reduceReplicate]
      repeat with_reducible refine cj ?_ ?_
      all_goals try first | omega
      refine hK15 _ _ _ ?_; clear hK15
      -- cond 4
      refine AW.cond rfl (by simp only [go_sem, reduceIte, reduceCtorEq, Nat.reduceAdd, Nat.reduceMul, Nat.reduceEqDiff, Nat.reduceLT, Nat.reduceLeDiff, Nat.reduceSub, Nat.reducePow, Nat.reduceBEq, Int.reduceToNat, List.reduceReplicate]) ?_ ?_
      · intro hb
        try simp only [hB, decide_eq_true_eq, decide_eq_false_iff_not] at hb
        refine AW.skip ?_
        refine hK14 _ _ _ ?_; clear hK14
        refine AW.seq fun K16 hK16 => ?_
        refine AW.block ?_
        refine AW.seq fun K17 hK17 => ?_
        -- region 11
        refine AW.regionK 0 (fun i => if i = 12 then some (.reads false (.int .i64 (bal n fl j))) else none) [1, 2, 3, 4, 10, 61] [4] ?_
        simp only [go_sem, reduceIte, reduceCtorEq, Nat.reduceAdd, Nat.reduceMul, Nat.reduceEqDiff, Nat.reduceLT, Nat.reduceLeDiff, Nat.reduceSub, Nat.reducePow, Nat.reduceBEq, Int.reduceToNat, List.reduceReplicate]
        repeat with_reducible refine cj ?_ ?_
        all_goals try first | ((intros; exact hbr j)) | (intros; (repeat' apply And.intro) <;> first | assumption | ((intros; exact hbr j))) | omega | exact ent (by kernel_rfl) | (simp only [go_sem, reduceIte, reduceCtorEq, Nat.reduceAdd, Nat.reduceMul, Nat.reduceEqDiff, Nat.reduceLT, Nat.reduceLeDiff, Nat.reduceSub, Nat.reducePow, Nat.reduceBEq, Int.reduceToNat, List.reduceReplicate]; done) | (simp_all [go_sem]; done)
        refine hK17 _ _ _ ?_; clear hK17
        -- cond 5
        refine AW.cond rfl (by simp only [go_sem, reduceIte, reduceCtorEq, Nat.reduceAdd, Nat.reduceMul, Nat.reduceEqDiff, Nat.reduceLT, Nat.reduceLeDiff, Nat.reduceSub, Nat.reducePow, Nat.reduceBEq, Int.reduceToNat, List.reduceReplicate]) ?_ ?_
        · intro hb
          try simp only [hB, decide_eq_true_eq, decide_eq_false_iff_not] at hb
          refine AW.seq fun K18 hK18 => ?_
          -- region 12
          refine AW.regionK 0 (fun _ => none) [8] [] ?_
          simp only [go_sem, reduceIte, reduceCtorEq, Nat.reduceAdd, Nat.reduceMul, Nat.reduceEqDiff, Nat.reduceLT, Nat.reduceLeDiff, Nat.reduceSub, Nat.reducePow, Nat.reduceBEq, Int.reduceToNat, List.reduceReplicate]
          repeat with_reducible refine cj ?_ ?_
          all_goals try first | omega
          refine hK18 _ _ _ ?_; clear hK18
          refine AW.ret ?_
          rw [← hQl2]
          rw [← hQr]
          simp only [go_sem, reduceIte, reduceCtorEq, Nat.reduceAdd, Nat.reduceMul, Nat.reduceEqDiff, Nat.reduceLT, Nat.reduceLeDiff, Nat.reduceSub, Nat.reducePow, Nat.reduceBEq, Int.reduceToNat, List.reduceReplicate]
          refine Wk.of_eq ?_
          have h1 : consB n s t fl n.N.toNat = false := range_all_false (j := j) (by omega) (by simp only [Bool.or_eq_false_iff, decide_eq_false_iff_not]; omega)
          simp [flowB, h1]
        · intro hb
          try simp only [hB, decide_eq_true_eq, decide_eq_false_iff_not] at hb
          refine AW.skip ?_
          refine hK16 _ _ _ ?_; clear hK16
          -- region 10
          refine AW.regionK 0 (fun _ => none) [1, 2, 3, 4, 10] [4] ?_
          simp only [go_sem, reduceIte, reduceCtorEq, Nat.reduceAdd, Nat.reduceMul, Nat.reduceEqDiff, Nat.reduceLT, Nat.reduceLeDiff, Nat.reduceSub, Nat.reducePow, Nat.reduceBEq, Int.reduceToNat, List.reduceReplicate]
          repeat with_reducible refine cj ?_ ?_
          all_goals try first | omega
          rw [← hQl2]
          change Exists _
          refine ⟨_, ?hm, j + 1, ?_, ?_, rfl, ?henv, ?hstore, ?hst⟩
          case henv =>
            repeat' (first | rfl | refine env_cons ?_ ?_ | refine st_cons ?_ ?_ ?_ ?_ | refine int_eq ?_ | refine bool_eq ?_ | refine rsl_eq ?_ | refine osl_eq ?_ | refine sl_eq ?_ ?_ ?_ | refine ptr_eq ?_ ?_ ?_ | refine agg_eq ?_ | refine es_cons ?_ ?_ | refine row_cons ?_ ?_)
            all_goals (first | (simp; done) | omega | (simp; omega))
          case hstore =>
            repeat' (first | rfl | refine env_cons ?_ ?_ | refine st_cons ?_ ?_ ?_ ?_ | refine int_eq ?_ | refine bool_eq ?_ | refine rsl_eq ?_ | refine osl_eq ?_ | refine sl_eq ?_ ?_ ?_ | refine ptr_eq ?_ ?_ ?_ | refine agg_eq ?_ | refine es_cons ?_ ?_ | refine row_cons ?_ ?_)
            all_goals (first | (simp; done) | omega | (simp; omega))
          case hst =>
            refine ⟨by omega, ?_⟩
            unfold consB at hc2 ⊢
            rw [range_all_succ, hc2]
            simp only [Bool.true_and, Bool.or_eq_true, decide_eq_true_eq]; omega
          case hm => omega
      · intro hb
        try simp only [hB, decide_eq_true_eq, decide_eq_false_iff_not] at hb
        refine AW.keep [] [] ?_
        try simp only [go_sem, reduceIte, reduceCtorEq, Nat.reduceAdd, Nat.reduceMul, Nat.reduceEqDiff, Nat.reduceLT, Nat.reduceLeDiff, Nat.reduceSub, Nat.reducePow, Nat.reduceBEq, Int.reduceToNat, List.reduceReplicate]
        refine AW.exit ?_
        rw [← hQl2]
        refine hK12 _ _ _ ?_; clear hK12
        refine AW.seq fun K19 hK19 => ?_
        -- region 13
        refine AW.regionK 0 (fun _ => none) [8] [] ?_
        simp only [go_sem, reduceIte, reduceCtorEq, Nat.reduceAdd, Nat.reduceMul, Nat.reduceEqDiff, Nat.reduceLT, Nat.reduceLeDiff, Nat.reduceSub, Nat.reducePow, Nat.reduceBEq, Int.reduceToNat, List.reduceReplicate]
        repeat with_reducible refine cj ?_ ?_
        all_goals try first | omega
        refine hK19 _ _ _ ?_; clear hK19
        refine AW.ret ?_
        rw [← hQr]
        simp only [go_sem, reduceIte, reduceCtorEq, Nat.reduceAdd, Nat.reduceMul, Nat.reduceEqDiff, Nat.reduceLT, Nat.reduceLeDiff, Nat.reduceSub, Nat.reducePow, Nat.reduceBEq, Int.reduceToNat, List.reduceReplicate]
        have hjN : j = n.N.toNat := by omega
        subst hjN
        refine Wk.of_eq ?_
        simp [flowB, hlen, hc, hc2]
end Go.Proofs.F
namespace Go.Proofs.F
open Go.AM Go
set_option maxRecDepth 100000
set_option maxHeartbeats 2000000
theorem rreach_r (n : Net) (s : Int) (fl : List Int) (hv : validB n = true) (h0 : 0 ≤ s) (h1 : s < n.N) (hl : fl.length = n.E.length) (r : List Bool × List Int) (hr : rReach n s fl = some r) :
    Reads Try.prog 42 true [netV n, .int .i64 s, .rsl 1 (ints fl)] (.tup [.rsl 1 (bools r.1), .rsl 1 (ints r.2)]) := by
  obtain ⟨hN1, hN2, hE⟩ := valid_size hv
  unfold netV
  unfold rReach at hr
  obtain ⟨N, hN⟩ : ∃ N : Nat, n.N = N := ⟨n.N.toNat, by omega⟩
  have hNt : n.N.toNat = N := by omega
  rw [hNt] at hr
  rw [hN] at h1 hN1 hN2
  have hed : ∀ {j : Nat} {x : Edg}, n.E[j]? = some x → 0 ≤ x.fr ∧ x.fr < (N : Int) ∧ 0 ≤ x.to ∧ x.to < (N : Int) := fun {j x} hx => by have := valid_edge hv hx; omega
  rw [hN]
  refine Reads.bodyF (rs := [.tmp 6, .tmp 7]) Try.func42 rfl Try.ntmps42 rfl (by simp) ?_
  generalize hQr : retQ _ _ _ = Qr
  refine AW.seq fun K1 hK1 => ?_
  -- region 0
  refine AW.regionK 0 (fun _ => none) [1, 2, 3] [3] ?_
  simp only [go_sem, reduceIte, reduceCtorEq, Nat.reduceAdd, Nat.reduceMul, Nat.reduceEqDiff, Nat.reduceLT, Nat.reduceLeDiff, Nat.reduceSub, Nat.reducePow, Nat.reduceBEq, Int.reduceToNat, List.reduceReplicate]
  repeat with_reducible refine cj ?_ ?_
  all_goals try first | omega
  refine hK1 _ _ _ ?_; clear hK1
  refine AW.seq fun K2 hK2 => ?_
  -- region 1
  refine AW.regionK 0 (fun _ => none) [1, 2, 3, 8] [3, 17] ?_
  simp only [go_sem, reduceIte, reduceCtorEq, Nat.reduceAdd, Nat.reduceMul, Nat.reduceEqDiff, Nat.reduceLT, Nat.reduceLeDiff, Nat.reduceSub, Nat.reducePow, Nat.reduceBEq, Int.reduceToNat, List.reduceReplicate]
  repeat with_reducible refine cj ?_ ?_
  all_goals try first | omega
  refine hK2 _ _ _ ?_; clear hK2
  refine AW.seq fun K3 hK3 => ?_
  -- region 2
  refine AW.regionK 0 (fun _ => none) [1, 2, 3, 8, 9] [3, 17, 20] ?_
  simp only [go_sem, reduceIte, reduceCtorEq, Nat.reduceAdd, Nat.reduceMul, Nat.reduceEqDiff, Nat.reduceLT, Nat.reduceLeDiff, Nat.reduceSub, Nat.reducePow, Nat.reduceBEq, Int.reduceToNat, List.reduceReplicate]
  repeat with_reducible refine cj ?_ ?_
  all_goals try first | omega
  refine hK3 _ _ _ ?_; clear hK3
  refine AW.seq fun K4 hK4 => ?_
  refine AW.seq fun K5 hK5 => ?_
  -- region 3
  refine AW.regionK 0 (fun _ => none) [1, 2, 3, 8, 9, 10] [3, 17, 20] ?_
  simp only [go_sem, reduceIte, reduceCtorEq, Nat.reduceAdd, Nat.reduceMul, Nat.reduceEqDiff, Nat.reduceLT, Nat.reduceLeDiff, Nat.reduceSub, Nat.reducePow, Nat.reduceBEq, Int.reduceToNat, List.reduceReplicate]
  repeat with_reducible refine cj ?_ ?_
  all_goals try first | omega
  refine hK5 _ _ _ ?_; clear hK5
  refine AW.block ?_
  -- loop 1
  refine AW.loopE (fun mm ee ss kk => ∃ (i g8 v8 g9 v9 g v : Nat), N - i = mm ∧ ee = [(1, .int .i64 s), (2, .rsl 1 (ints fl)), (3, .ptr ⟨3, g, none⟩ 0 0), (8, .sl ⟨17, g8, none⟩ 0 N none), (9, .sl ⟨20, g9, none⟩ 0 N none), (10, .int .i64 (i : Nat))] ∧ ss = [(3, some ⟨g, v, 2, [[.int .i64 N, .rsl 3 (n.E.map edgeV)]]⟩), (17, some ⟨g8, v8, 1, bools (List.replicate N false)⟩), (20, some ⟨g9, v9, 1, ints (List.replicate i (-1) ++ List.replicate (N - i) 0)⟩)] ∧ (i ≤ N)) ?_ ?_
  · refine ⟨_, 0, ?_, ?_, ?_, ?_, ?_, ?_, rfl, ?henv, ?hstore, ?hst⟩
    case henv =>
      repeat' (first | rfl | refine env_cons ?_ ?_ | refine st_cons ?_ ?_ ?_ ?_ | refine int_eq ?_ | refine bool_eq ?_ | refine rsl_eq ?_ | refine osl_eq ?_ | refine sl_eq ?_ ?_ ?_ | refine ptr_eq ?_ ?_ ?_ | refine agg_eq ?_ | refine es_cons ?_ ?_ | refine row_cons ?_ ?_)
      all_goals (first | (simp; done) | omega | (simp; omega))
    case hstore =>
      repeat' (first | rfl | refine env_cons ?_ ?_ | refine st_cons ?_ ?_ ?_ ?_ | refine int_eq ?_ | refine bool_eq ?_ | refine rsl_eq ?_ | refine osl_eq ?_ | refine sl_eq ?_ ?_ ?_ | refine ptr_eq ?_ ?_ ?_ | refine agg_eq ?_ | refine es_cons ?_ ?_ | refine row_cons ?_ ?_)
      all_goals simp [ints, bools]
    case hst =>
      first | trivial | omega | (simp; done) | (simp; omega)
  rintro mm ee ss kk ⟨i, g8, v8, g9, v9, g, v, rfl, rfl, rfl, hI⟩
  generalize hQl1 : thenQ _ _ = Ql1
  refine AW.seq fun K6 hK6 => ?_
  refine AW.seq fun K7 hK7 => ?_
  -- region 4
  refine AW.regionK 0 (fun _ => none) [1, 2, 3, 8, 9, 10, 24] [3, 17, 20] ?_
  simp only [go_sem, reduceIte, reduceCtorEq, Nat.reduceAdd, Nat.reduceMul, Nat.reduceEqDiff, Nat.reduceLT, Nat.reduceLeDiff, Nat.reduceSub, Nat.reducePow, Nat.reduceBEq, Int.reduceToNat, List.reduceReplicate]
  repeat with_reducible refine cj ?_ ?_
  all_goals try first | omega
  refine hK7 _ _ _ ?_; clear hK7
  -- cond 1
  refine AW.cond rfl (by simp only [go_sem, reduceIte, reduceCtorEq, Nat.reduceAdd, Nat.reduceMul, Nat.reduceEqDiff, Nat.reduceLT, Nat.reduceLeDiff, Nat.reduceSub, Nat.reducePow, Nat.reduceBEq, Int.reduceToNat, List.reduceReplicate]) ?_ ?_
  · intro hb
    try simp only [hB, decide_eq_true_eq, decide_eq_false_iff_not] at hb
    refine AW.skip ?_
    refine hK6 _ _ _ ?_; clear hK6
    refine AW.seq fun K8 hK8 => ?_
    refine AW.block ?_
    have hl5 : (List.replicate i (-1 : Int) ++ List.replicate (N - i) 0).length = N := by simp; omega
    -- region 6
    refine AW.regionK 0 (fun _ => none) [1, 2, 3, 8, 9, 10] [3, 17, 20] ?_
    simp only [go_sem, reduceIte, reduceCtorEq, Nat.reduceAdd, Nat.reduceMul, Nat.reduceEqDiff, Nat.reduceLT, Nat.reduceLeDiff, Nat.reduceSub, Nat.reducePow, Nat.reduceBEq, Int.reduceToNat, List.reduceReplicate, fillN i N (by omega), hl5]
    repeat with_reducible refine cj ?_ ?_
    all_goals try first | omega
    refine hK8 _ _ _ ?_; clear hK8
    -- region 5
    refine AW.regionK 0 (fun _ => none) [1, 2, 3, 8, 9, 10] [3, 17, 20] ?_
    simp only [go_sem, reduceIte, reduceCtorEq, Nat.reduceAdd, Nat.reduceMul, Nat.reduceEqDiff, Nat.reduceLT, Nat.reduceLeDiff, Nat.reduceSub, Nat.reducePow, Nat.reduceBEq, Int.reduceToNat, List.reduceReplicate]
    repeat with_reducible refine cj ?_ ?_
    all_goals try first | omega
    rw [← hQl1]
    change Exists _
    refine ⟨_, ?hm, i + 1, ?_, ?_, ?_, ?_, ?_, ?_, rfl, ?henv, ?hstore, ?hst⟩
    case henv =>
      repeat' (first | rfl | refine env_cons ?_ ?_ | refine st_cons ?_ ?_ ?_ ?_ | refine int_eq ?_ | refine bool_eq ?_ | refine rsl_eq ?_ | refine osl_eq ?_ | refine sl_eq ?_ ?_ ?_ | refine ptr_eq ?_ ?_ ?_ | refine agg_eq ?_ | refine es_cons ?_ ?_ | refine row_cons ?_ ?_)
      all_goals (first | (simp; done) | omega | (simp; omega))
    case hstore =>
      repeat' (first | rfl | refine env_cons ?_ ?_ | refine st_cons ?_ ?_ ?_ ?_ | refine int_eq ?_ | refine bool_eq ?_ | refine rsl_eq ?_ | refine osl_eq ?_ | refine sl_eq ?_ ?_ ?_ | refine ptr_eq ?_ ?_ ?_ | refine agg_eq ?_ | refine es_cons ?_ ?_ | refine row_cons ?_ ?_)
      all_goals (first | (simp; done) | omega | (simp; omega))
    case hst =>
      first | trivial | omega | (simp; done) | (simp; omega)
    case hm => omega
  · intro hb
    try simp only [hB, decide_eq_true_eq, decide_eq_false_iff_not] at hb
    refine AW.keep [1, 2, 3, 8, 9] [3, 17, 20] ?_
    try simp only [go_sem, reduceIte, reduceCtorEq, Nat.reduceAdd, Nat.reduceMul, Nat.reduceEqDiff, Nat.reduceLT, Nat.reduceLeDiff, Nat.reduceSub, Nat.reducePow, Nat.reduceBEq, Int.reduceToNat, List.reduceReplicate]
    refine AW.exit ?_
    rw [← hQl1]
    refine hK4 _ _ _ ?_; clear hK4
    refine AW.seq fun K9 hK9 => ?_
    have hiN : N = i := by omega
    subst hiN
    simp only [Nat.sub_self, List.replicate_zero, List.append_nil]
    -- region 7
    refine AW.regionK 0 (fun _ => none) [1, 2, 3, 8, 9] [3, 17, 20] ?_
    simp only [go_sem, reduceIte, reduceCtorEq, Nat.reduceAdd, Nat.reduceMul, Nat.reduceEqDiff, Nat.reduceLT, Nat.reduceLeDiff, Nat.reduceSub, Nat.reducePow, Nat.reduceBEq, Int.reduceToNat, List.reduceReplicate]
    repeat with_reducible refine cj ?_ ?_
    all_goals try first | omega
    refine hK9 _ _ _ ?_; clear hK9
    refine AW.seq fun K10 hK10 => ?_
    -- region 8
    refine AW.regionK 0 (fun _ => none) [2, 3, 8, 9, 11] [3, 17, 20, 34] ?_
    simp only [go_sem, reduceIte, reduceCtorEq, Nat.reduceAdd, Nat.reduceMul, Nat.reduceEqDiff, Nat.reduceLT, Nat.reduceLeDiff, Nat.reduceSub, Nat.reducePow, Nat.reduceBEq, Int.reduceToNat, List.reduceReplicate]
    repeat with_reducible refine cj ?_ ?_
    all_goals try first | omega
    refine hK10 _ _ _ ?_; clear hK10
    refine AW.seq fun K11 hK11 => ?_
    refine AW.block ?_
    -- loop 2
    refine AW.loopE (fun mm ee ss kk => ∃ (f o g8 v8 g9 v9 g11 v11 g v : Nat) (L : List Int) (st : RSt), f + 1 = mm ∧ ee = [(2, .rsl 1 (ints fl)), (3, .ptr ⟨3, g, none⟩ 0 0), (8, .sl ⟨17, g8, none⟩ 0 N none), (9, .sl ⟨20, g9, none⟩ 0 N none), (11, .sl ⟨34, g11, none⟩ o st.2.2.length none)] ∧ ss = [(3, some ⟨g, v, 2, [[.int .i64 N, .rsl 3 (n.E.map edgeV)]]⟩), (17, some ⟨g8, v8, 1, bools st.1⟩), (20, some ⟨g9, v9, 1, ints st.2.1⟩), (34, some ⟨g11, v11, 1, ints L⟩)] ∧ (WfS N st ∧ rbfs n.E fl f st = some r ∧ L.drop o = st.2.2)) ?_ ?_
    · refine ⟨_, N + 1, 0, ?_, ?_, ?_, ?_, ?_, ?_, ?_, ?_, [s], r0 N s, rfl, ?henv, ?hstore, ?hst⟩
      case henv =>
        repeat' (first | rfl | refine env_cons ?_ ?_ | refine st_cons ?_ ?_ ?_ ?_ | refine int_eq ?_ | refine bool_eq ?_ | refine rsl_eq ?_ | refine osl_eq ?_ | refine sl_eq ?_ ?_ ?_ | refine ptr_eq ?_ ?_ ?_ | refine agg_eq ?_ | refine es_cons ?_ ?_ | refine row_cons ?_ ?_)
        all_goals (first | (simp; done) | omega | (simp; omega))
      case hstore =>
        repeat' (first | rfl | refine env_cons ?_ ?_ | refine st_cons ?_ ?_ ?_ ?_ | refine int_eq ?_ | refine bool_eq ?_ | refine rsl_eq ?_ | refine osl_eq ?_ | refine sl_eq ?_ ?_ ?_ | refine ptr_eq ?_ ?_ ?_ | refine agg_eq ?_ | refine es_cons ?_ ?_ | refine row_cons ?_ ?_)
        all_goals simp [r0, ints]
      case hst =>
        exact ⟨WfS.start h0 h1, hr, rfl⟩
    rintro mm ee ss kk ⟨f, o, g8, v8, g9, v9, g11, v11, g, v, L, st, rfl, rfl, rfl, hI⟩
    generalize hQl2 : thenQ _ _ = Ql2
    obtain ⟨hq, hbf, hL⟩ := hI
    have hq1 := hq.len1
    have hq2 := hq.len2
    have hqc := hq.cnt
    refine AW.seq fun K12 hK12 => ?_
    refine AW.seq fun K13 hK13 => ?_
    -- region 9
    refine AW.regionK 0 (fun _ => none) [2, 3, 8, 9, 11, 37] [3, 17, 20, 34] ?_
    simp only [go_sem, reduceIte, reduceCtorEq, Nat.reduceAdd, Nat.reduceMul, Nat.reduceEqDiff, Nat.reduceLT, Nat.reduceLeDiff, Nat.reduceSub, Nat.reducePow, Nat.reduceBEq, Int.reduceToNat, List.reduceReplicate]
    repeat with_reducible refine cj ?_ ?_
    all_goals try first | omega
    refine hK13 _ _ _ ?_; clear hK13
    -- cond 2
    refine AW.cond rfl (by simp only [go_sem, reduceIte, reduceCtorEq, Nat.reduceAdd, Nat.reduceMul, Nat.reduceEqDiff, Nat.reduceLT, Nat.reduceLeDiff, Nat.reduceSub, Nat.reducePow, Nat.reduceBEq, Int.reduceToNat, List.reduceReplicate]) ?_ ?_
    · intro hb
      try simp only [hB, decide_eq_true_eq, decide_eq_false_iff_not] at hb
      obtain ⟨v0, rest, hst⟩ : ∃ v0 rest, st.2.2 = v0 :: rest := by
        cases h : st.2.2 with
        | nil => simp [h] at hb
        | cons a b => exact ⟨a, b, rfl⟩
      obtain ⟨f, rfl⟩ : ∃ f', f = f' + 1 := by
        cases f with
        | zero => simp [rbfs, hst] at hbf
        | succ f => exact ⟨f, rfl⟩
      simp only [rbfs, hst] at hbf
      rw [hst] at hL
      obtain ⟨hL0, hL1, hL2⟩ := drop_cons_get hL
      have hgL := ints_get hL0
      have hvr := hq.rng v0 (by rw [hst]; simp)
      have hq0 : WfS N (st.1, st.2.1, rest) := ⟨hq1, hq2, fun v hv => hq.rng v (by rw [hst]; simp [hv]), by rw [hst] at hqc; simp at hqc ⊢; omega⟩
      rw [hst]
      simp only [List.length_cons]
      refine AW.skip ?_
      refine hK12 _ _ _ ?_; clear hK12
      refine AW.block ?_
      refine AW.seq fun K14 hK14 => ?_
      -- region 10
      refine AW.regionK 0 (fun _ => none) [2, 3, 8, 9, 11, 12] [3, 17, 20, 34] ?_
      simp only [go_sem, reduceIte, reduceCtorEq, Nat.reduceAdd, Nat.reduceMul, Nat.reduceEqDiff, Nat.reduceLT, Nat.reduceLeDiff, Nat.reduceSub, Nat.reducePow, Nat.reduceBEq, Int.reduceToNat, List.reduceReplicate, hgL]
      repeat with_reducible refine cj ?_ ?_
      all_goals try first | omega
      refine hK14 _ _ _ ?_; clear hK14
      refine AW.seq fun K15 hK15 => ?_
      -- region 11
      refine AW.regionK 0 (fun _ => none) [2, 3, 8, 9, 11, 12] [3, 17, 20, 34] ?_
      simp only [go_sem, reduceIte, reduceCtorEq, Nat.reduceAdd, Nat.reduceMul, Nat.reduceEqDiff, Nat.reduceLT, Nat.reduceLeDiff, Nat.reduceSub, Nat.reducePow, Nat.reduceBEq, Int.reduceToNat, List.reduceReplicate, Nat.add_sub_cancel]
      repeat with_reducible refine cj ?_ ?_
      all_goals try first | omega
      refine hK15 _ _ _ ?_; clear hK15
      refine AW.seq fun K16 hK16 => ?_
      -- region 12
      refine AW.regionK 0 (fun _ => none) [2, 3, 8, 9, 11, 12, 13] [3, 17, 20, 34] ?_
      simp only [go_sem, reduceIte, reduceCtorEq, Nat.reduceAdd, Nat.reduceMul, Nat.reduceEqDiff, Nat.reduceLT, Nat.reduceLeDiff, Nat.reduceSub, Nat.reducePow, Nat.reduceBEq, Int.reduceToNat, List.reduceReplicate]
      repeat with_reducible refine cj ?_ ?_
      all_goals try first | omega
      refine hK16 _ _ _ ?_; clear hK16
      refine AW.block ?_
      -- loop 3
      refine AW.loopE (fun mm ee ss kk => ∃ (j o g8 v8 g9 v9 g11 v11 g v : Nat) (L : List Int) (su : RSt), n.E.length - j = mm ∧ ee = [(2, .rsl 1 (ints fl)), (3, .ptr ⟨3, g, none⟩ 0 0), (8, .sl ⟨17, g8, none⟩ 0 N none), (9, .sl ⟨20, g9, none⟩ 0 N none), (11, .sl ⟨34, g11, none⟩ o su.2.2.length none), (12, .int .i64 v0), (13, .int .i64 (j : Nat))] ∧ ss = [(3, some ⟨g, v, 2, [[.int .i64 N, .rsl 3 (n.E.map edgeV)]]⟩), (17, some ⟨g8, v8, 1, bools su.1⟩), (20, some ⟨g9, v9, 1, ints su.2.1⟩), (34, some ⟨g11, v11, 1, ints L⟩)] ∧ (WfS N su ∧ su = rScan n.E fl v0 j (st.1, st.2.1, rest) ∧ L.drop o = su.2.2 ∧ j ≤ n.E.length)) ?_ ?_
      · refine ⟨_, 0, o + 1, ?_, ?_, ?_, ?_, ?_, ?_, ?_, ?_, L, (st.1, st.2.1, rest), rfl, ?henv, ?hstore, ?hst⟩
        case henv =>
          repeat' (first | rfl | refine env_cons ?_ ?_ | refine st_cons ?_ ?_ ?_ ?_ | refine int_eq ?_ | refine bool_eq ?_ | refine rsl_eq ?_ | refine osl_eq ?_ | refine sl_eq ?_ ?_ ?_ | refine ptr_eq ?_ ?_ ?_ | refine agg_eq ?_ | refine es_cons ?_ ?_ | refine row_cons ?_ ?_)
          all_goals (first | (simp; done) | omega | (simp; omega))
        case hstore =>
          repeat' (first | rfl | refine env_cons ?_ ?_ | refine st_cons ?_ ?_ ?_ ?_ | refine int_eq ?_ | refine bool_eq ?_ | refine rsl_eq ?_ | refine osl_eq ?_ | refine sl_eq ?_ ?_ ?_ | refine ptr_eq ?_ ?_ ?_ | refine agg_eq ?_ | refine es_cons ?_ ?_ | refine row_cons ?_ ?_)
          all_goals (first | (simp; done) | omega | (simp; omega))
        case hst =>
          exact ⟨hq0, rfl, hL1, Nat.zero_le _⟩
      rintro mm ee ss kk ⟨j, o, g8, v8, g9, v9, g11, v11, g, v, L, su, rfl, rfl, rfl, hI⟩
      generalize hQl3 : thenQ _ _ = Ql3
      obtain ⟨hqu, hsu, hLu, hj⟩ := hI
      have hu1 := hqu.len1
      have hu2 := hqu.len2
      have huc := hqu.cnt
      refine AW.seq fun K17 hK17 => ?_
      refine AW.seq fun K18 hK18 => ?_
      -- region 13
      refine AW.regionK 0 (fun _ => none) [2, 3, 8, 9, 11, 12, 13, 47] [3, 17, 20, 34] ?_
      simp only [go_sem, reduceIte, reduceCtorEq, Nat.reduceAdd, Nat.reduceMul, Nat.reduceEqDiff, Nat.reduceLT, Nat.reduceLeDiff, Nat.reduceSub, Nat.reducePow, Nat.reduceBEq, Int.reduceToNat, List.reduceReplicate]
      repeat with_reducible refine cj ?_ ?_
      all_goals try first | omega
      refine hK18 _ _ _ ?_; clear hK18
      -- cond 3
      refine AW.cond rfl (by simp only [go_sem, reduceIte, reduceCtorEq, Nat.reduceAdd, Nat.reduceMul, Nat.reduceEqDiff, Nat.reduceLT, Nat.reduceLeDiff, Nat.reduceSub, Nat.reducePow, Nat.reduceBEq, Int.reduceToNat, List.reduceReplicate]) ?_ ?_
      · intro hb
        try simp only [hB, decide_eq_true_eq, decide_eq_false_iff_not] at hb
        obtain ⟨x, hx⟩ := getI (l := n.E) (j := j) (by omega)
        have hxv := getV (f := edgeV) hx
        have hea := eAt_of hx
        have hxr := hed hx
        have hgf := ints_getD (l := fl) (i := j) (by omega)
        have hgs := bools_getD (l := su.1) (i := x.to.toNat) (by omega)
        have hsA : rA n.E fl v0 j su = rA n.E fl v0 j su := rfl
        have hwA := hqu.rA (E := n.E) (fl := fl) (v := v0) (i := j) (by rw [hea]; omega)
        conv at hsA => lhs; unfold rA
        rw [hea] at hsA
        refine AW.skip ?_
        refine hK17 _ _ _ ?_; clear hK17
        refine AW.seq fun K19 hK19 => ?_
        refine AW.block ?_
        refine AW.seq fun K20 hK20 => ?_
        -- region 15
        refine AW.regionK 0 (fun _ => none) [2, 3, 8, 9, 11, 12, 13, 14] [3, 14, 17, 20, 34] ?_
        simp only [go_sem, reduceIte, reduceCtorEq, Nat.reduceAdd, Nat.reduceMul, Nat.reduceEqDiff, Nat.reduceLT, Nat.reduceLeDiff, Nat.reduceSub, Nat.reducePow, Nat.reduceBEq, Int.reduceToNat, List.reduceReplicate, hxv, edgeV]
        repeat with_reducible refine cj ?_ ?_
        all_goals try first | omega
        refine hK20 _ _ _ ?_; clear hK20
        refine AW.seq fun K21 hK21 => ?_
        refine AW.seq fun K22 hK22 => ?_
        -- region 16
        refine AW.regionD mixed 0 (fun _ => none) [2, 3, 8, 9, 11, 12, 13, 14, 75] [3, 14, 17, 20, 34] ?_
        simp only [go_sem, reduceIte, reduceCtorEq, Nat.reduceAdd, Nat.reduceMul, Nat.reduceEqDiff, Nat.reduceLT, Nat.reduceLeDiff, Nat.reduceSub, Nat.reducePow, Nat.reduceBEq, Int.reduceToNat, List.reduceReplicate, hgf, hgs]
        repeat with_reducible refine cj ?_ ?_
        all_goals try first | omega | exact chk (by kernel_rfl) | (simp only [go_sem, reduceIte, reduceCtorEq, Nat.reduceAdd, Nat.reduceMul, Nat.reduceEqDiff, Nat.reduceLT, Nat.reduceLeDiff, Nat.reduceSub, Nat.reducePow, Nat.reduceBEq, Int.reduceToNat, List.reduceReplicate, hgf, hgs]; done) | (simp_all [go_sem]; done)
        refine hK22 _ _ _ ?_; clear hK22
        have hJ4 : ∀ (su1 : RSt) (o1 g81 v81 g91 v91 g111 v111 g14 v14 : Nat) (L1 : List Int) (hw1 : WfS N su1) (hs1 : su1 = rA n.E fl v0 j su) (hL1 : L1.drop o1 = su1.2.2) (kk : Nat), K21 [(2, .rsl 1 (ints fl)), (3, .ptr ⟨3, g, none⟩ 0 0), (8, .sl ⟨17, g81, none⟩ 0 N none), (9, .sl ⟨20, g91, none⟩ 0 N none), (11, .sl ⟨34, g111, none⟩ o1 su1.2.2.length none), (12, .int .i64 v0), (13, .int .i64 (j : Nat)), (14, .ptr ⟨14, g14, none⟩ 0 0)] [(3, some ⟨g, v, 2, [[.int .i64 N, .rsl 3 (n.E.map edgeV)]]⟩), (14, some ⟨g14, v14, 3, [[.int .i64 x.fr, .int .i64 x.to, .int .i64 x.cap]]⟩), (17, some ⟨g81, v81, 1, bools su1.1⟩), (20, some ⟨g91, v91, 1, ints su1.2.1⟩), (34, some ⟨g111, v111, 1, ints L1⟩)] kk := by
          intro su1 o1 g81 v81 g91 v91 g111 v111 g14 v14 L1 hw1 hs1 hL1 kk
          refine hK21 _ _ _ ?_; clear hK21
          have hu1 := hw1.len1
          have hu2 := hw1.len2
          have huc := hw1.cnt
          have hgs := bools_getD (l := su1.1) (i := x.fr.toNat) (by omega)
          have hsB : rB n.E fl v0 j su1 = rB n.E fl v0 j su1 := rfl
          have hwB := hw1.rB (E := n.E) (fl := fl) (v := v0) (i := j) (by rw [hea]; omega)
          conv at hsB => lhs; unfold rB
          rw [hea] at hsB
          have hsc : rScan n.E fl v0 (j + 1) (st.1, st.2.1, rest) = rB n.E fl v0 j su1 := by rw [hs1, hsu]; rfl
          refine AW.seq fun K26 hK26 => ?_
          -- region 20
          refine AW.regionK 0 (fun _ => none) [2, 3, 8, 9, 11, 12, 13, 14, 108] [3, 14, 17, 20, 34] ?_
          simp only [go_sem, reduceIte, reduceCtorEq, Nat.reduceAdd, Nat.reduceMul, Nat.reduceEqDiff, Nat.reduceLT, Nat.reduceLeDiff, Nat.reduceSub, Nat.reducePow, Nat.reduceBEq, Int.reduceToNat, List.reduceReplicate, hgf, hgs]
          repeat with_reducible refine cj ?_ ?_
          all_goals try first | omega | (simp only [go_sem, reduceIte, reduceCtorEq, Nat.reduceAdd, Nat.reduceMul, Nat.reduceEqDiff, Nat.reduceLT, Nat.reduceLeDiff, Nat.reduceSub, Nat.reducePow, Nat.reduceBEq, Int.reduceToNat, List.reduceReplicate, hgf, hgs]; done) | (simp_all [go_sem]; done)
          refine hK26 _ _ _ ?_; clear hK26
          -- cond 5
          refine AW.cond rfl (by simp only [go_sem, reduceIte, reduceCtorEq, Nat.reduceAdd, Nat.reduceMul, Nat.reduceEqDiff, Nat.reduceLT, Nat.reduceLeDiff, Nat.reduceSub, Nat.reducePow, Nat.reduceBEq, Int.reduceToNat, List.reduceReplicate]) ?_ ?_
          · intro hb
            try simp only [hB, decide_eq_true_eq, decide_eq_false_iff_not] at hb
            rw [if_pos ⟨hb.1.1, hb.1.2, hb.2⟩] at hsB
            rw [← hsB] at hwB hsc
            refine AW.seq fun K27 hK27 => ?_
            -- region 21
            refine AW.regionK 0 (fun _ => none) [2, 3, 8, 9, 11, 12, 13, 14] [3, 14, 17, 20, 34] ?_
            simp only [go_sem, reduceIte, reduceCtorEq, Nat.reduceAdd, Nat.reduceMul, Nat.reduceEqDiff, Nat.reduceLT, Nat.reduceLeDiff, Nat.reduceSub, Nat.reducePow, Nat.reduceBEq, Int.reduceToNat, List.reduceReplicate]
            repeat with_reducible refine cj ?_ ?_
            all_goals try first | omega
            refine hK27 _ _ _ ?_; clear hK27
            refine AW.seq fun K28 hK28 => ?_
            -- region 22
            refine AW.regionK 0 (fun _ => none) [2, 3, 8, 9, 11, 12, 13, 14] [3, 14, 17, 20, 34] ?_
            simp only [go_sem, reduceIte, reduceCtorEq, Nat.reduceAdd, Nat.reduceMul, Nat.reduceEqDiff, Nat.reduceLT, Nat.reduceLeDiff, Nat.reduceSub, Nat.reducePow, Nat.reduceBEq, Int.reduceToNat, List.reduceReplicate]
            repeat with_reducible refine cj ?_ ?_
            all_goals try first | omega
            refine hK28 _ _ _ ?_; clear hK28
            -- region 23
            refine AW.regionK 0 (fun _ => none) [2, 3, 8, 9, 11, 12, 13] [3, 17, 20, 34] ?_
            simp only [go_sem, reduceIte, reduceCtorEq, Nat.reduceAdd, Nat.reduceMul, Nat.reduceEqDiff, Nat.reduceLT, Nat.reduceLeDiff, Nat.reduceSub, Nat.reducePow, Nat.reduceBEq, Int.reduceToNat, List.reduceReplicate, ints_drop, hL1, ints_app]
            repeat with_reducible refine cj ?_ ?_
            all_goals try first | (first | (right; exact noOslP_ints _) | omega) | omega | (simp [scP, scalar]; done)
            refine hK19 _ _ _ ?_; clear hK19
            -- region 14
            refine AW.regionK 0 (fun _ => none) [2, 3, 8, 9, 11, 12, 13] [3, 17, 20, 34] ?_
            simp only [go_sem, reduceIte, reduceCtorEq, Nat.reduceAdd, Nat.reduceMul, Nat.reduceEqDiff, Nat.reduceLT, Nat.reduceLeDiff, Nat.reduceSub, Nat.reducePow, Nat.reduceBEq, Int.reduceToNat, List.reduceReplicate]
            repeat with_reducible refine cj ?_ ?_
            all_goals try first | omega
            rw [← hQl3]
            change Exists _
            refine ⟨_, ?hm, j + 1, ?_, ?_, ?_, ?_, ?_, ?_, ?_, ?_, ?_, ?_, rScan n.E fl v0 (j + 1) (st.1, st.2.1, rest), rfl, ?henv, ?hstore, ?hst⟩
            case henv =>
              repeat' (first | rfl | refine env_cons ?_ ?_ | refine st_cons ?_ ?_ ?_ ?_ | refine int_eq ?_ | refine bool_eq ?_ | refine rsl_eq ?_ | refine osl_eq ?_ | refine sl_eq ?_ ?_ ?_ | refine ptr_eq ?_ ?_ ?_ | refine agg_eq ?_ | refine es_cons ?_ ?_ | refine row_cons ?_ ?_)
              all_goals first | (rw [hsc]; simp; done) | (rw [hsc]; done) | rfl
            case hstore =>
              repeat' (first | rfl | refine env_cons ?_ ?_ | refine st_cons ?_ ?_ ?_ ?_ | refine int_eq ?_ | refine bool_eq ?_ | refine rsl_eq ?_ | refine osl_eq ?_ | refine sl_eq ?_ ?_ ?_ | refine ptr_eq ?_ ?_ ?_ | refine agg_eq ?_ | refine es_cons ?_ ?_ | refine row_cons ?_ ?_)
              all_goals first | (rw [hsc]; done) | rfl
            case hst =>
              refine ⟨by rw [hsc]; exact hwB, rfl, ?_, by omega⟩
              rw [hsc]
              first | rfl | exact hL1
            case hm => omega
          · intro hb
            try simp only [hB, decide_eq_true_eq, decide_eq_false_iff_not] at hb
            rw [if_neg (by rintro ⟨a1, a2, a3⟩; rcases hb with (hb | hb) | hb; exact hb a1; omega; rw [a3] at hb; cases hb)] at hsB
            rw [← hsB] at hwB hsc
            refine AW.skip ?_
            refine hK19 _ _ _ ?_; clear hK19
            -- region 14
            refine AW.regionK 0 (fun _ => none) [2, 3, 8, 9, 11, 12, 13] [3, 17, 20, 34] ?_
            simp only [go_sem, reduceIte, reduceCtorEq, Nat.reduceAdd, Nat.reduceMul, Nat.reduceEqDiff, Nat.reduceLT, Nat.reduceLeDiff, Nat.reduceSub, Nat.reducePow, Nat.reduceBEq, Int.reduceToNat, List.reduceReplicate]
            repeat with_reducible refine cj ?_ ?_
            all_goals try first | omega
            rw [← hQl3]
            change Exists _
            refine ⟨_, ?hm, j + 1, ?_, ?_, ?_, ?_, ?_, ?_, ?_, ?_, ?_, ?_, rScan n.E fl v0 (j + 1) (st.1, st.2.1, rest), rfl, ?henv, ?hstore, ?hst⟩
            case henv =>
              repeat' (first | rfl | refine env_cons ?_ ?_ | refine st_cons ?_ ?_ ?_ ?_ | refine int_eq ?_ | refine bool_eq ?_ | refine rsl_eq ?_ | refine osl_eq ?_ | refine sl_eq ?_ ?_ ?_ | refine ptr_eq ?_ ?_ ?_ | refine agg_eq ?_ | refine es_cons ?_ ?_ | refine row_cons ?_ ?_)
              all_goals first | (rw [hsc]; simp; done) | (rw [hsc]; done) | rfl
            case hstore =>
              repeat' (first | rfl | refine env_cons ?_ ?_ | refine st_cons ?_ ?_ ?_ ?_ | refine int_eq ?_ | refine bool_eq ?_ | refine rsl_eq ?_ | refine osl_eq ?_ | refine sl_eq ?_ ?_ ?_ | refine ptr_eq ?_ ?_ ?_ | refine agg_eq ?_ | refine es_cons ?_ ?_ | refine row_cons ?_ ?_)
              all_goals first | (rw [hsc]; done) | rfl
            case hst =>
              refine ⟨by rw [hsc]; exact hwB, rfl, ?_, by omega⟩
              rw [hsc]
              first | rfl | exact hL1
            case hm => omega
        -- cond 4
        refine AW.cond rfl (by simp only [go_sem, reduceIte, reduceCtorEq, Nat.reduceAdd, Nat.reduceMul, Nat.reduceEqDiff, Nat.reduceLT, Nat.reduceLeDiff, Nat.reduceSub, Nat.reducePow, Nat.reduceBEq, Int.reduceToNat, List.reduceReplicate]) ?_ ?_
        · intro hb
          try simp only [hB, decide_eq_true_eq, decide_eq_false_iff_not] at hb
          rw [if_pos ⟨hb.1.1, hb.1.2, hb.2⟩] at hsA
          rw [← hsA] at hwA
          refine AW.seq fun K29 hK29 => ?_
          -- region 17
          refine AW.regionK 0 (fun _ => none) [2, 3, 8, 9, 11, 12, 13, 14] [3, 14, 17, 20, 34] ?_
          simp only [go_sem, reduceIte, reduceCtorEq, Nat.reduceAdd, Nat.reduceMul, Nat.reduceEqDiff, Nat.reduceLT, Nat.reduceLeDiff, Nat.reduceSub, Nat.reducePow, Nat.reduceBEq, Int.reduceToNat, List.reduceReplicate]
          repeat with_reducible refine cj ?_ ?_
          all_goals try first | omega
          refine hK29 _ _ _ ?_; clear hK29
          refine AW.seq fun K30 hK30 => ?_
          -- region 18
          refine AW.regionK 0 (fun _ => none) [2, 3, 8, 9, 11, 12, 13, 14] [3, 14, 17, 20, 34] ?_
          simp only [go_sem, reduceIte, reduceCtorEq, Nat.reduceAdd, Nat.reduceMul, Nat.reduceEqDiff, Nat.reduceLT, Nat.reduceLeDiff, Nat.reduceSub, Nat.reducePow, Nat.reduceBEq, Int.reduceToNat, List.reduceReplicate]
          repeat with_reducible refine cj ?_ ?_
          all_goals try first | omega
          refine hK30 _ _ _ ?_; clear hK30
          -- region 19
          refine AW.regionK 0 (fun _ => none) [2, 3, 8, 9, 11, 12, 13, 14] [3, 14, 17, 20, 34] ?_
          simp only [go_sem, reduceIte, reduceCtorEq, Nat.reduceAdd, Nat.reduceMul, Nat.reduceEqDiff, Nat.reduceLT, Nat.reduceLeDiff, Nat.reduceSub, Nat.reducePow, Nat.reduceBEq, Int.reduceToNat, List.reduceReplicate, ints_drop, hLu, ints_app]
          repeat with_reducible refine cj ?_ ?_
          all_goals try first | (first | (right; exact noOslP_ints _) | omega) | omega | (simp [scP, scalar]; done)
          first | exact hJ4 su _ _ _ _ _ _ _ _ _ L hqu hsA hLu _ | (have h := fun a b c d e f g i kk => hJ4 (su.1.set x.to.toNat true, su.2.1.set x.to.toNat j, su.2.2 ++ [x.to]) 0 a b c d e f g i (su.2.2 ++ [x.to]) hwA hsA rfl kk; simp only [List.length_append, List.length_singleton] at h; exact h _ _ _ _ _ _ _ _ _)
        · intro hb
          try simp only [hB, decide_eq_true_eq, decide_eq_false_iff_not] at hb
          rw [if_neg (by rintro ⟨a1, a2, a3⟩; rcases hb with (hb | hb) | hb; exact hb a1; omega; rw [a3] at hb; cases hb)] at hsA
          refine AW.keep [2, 3, 8, 9, 11, 12, 13, 14] [3, 14, 17, 20, 34] ?_
          try simp only [go_sem, reduceIte, reduceCtorEq, Nat.reduceAdd, Nat.reduceMul, Nat.reduceEqDiff, Nat.reduceLT, Nat.reduceLeDiff, Nat.reduceSub, Nat.reducePow, Nat.reduceBEq, Int.reduceToNat, List.reduceReplicate]
          refine AW.skip ?_
          first | exact hJ4 su _ _ _ _ _ _ _ _ _ L hqu hsA hLu _ | (have h := fun a b c d e f g i kk => hJ4 (su.1.set x.to.toNat true, su.2.1.set x.to.toNat j, su.2.2 ++ [x.to]) 0 a b c d e f g i (su.2.2 ++ [x.to]) hwA hsA rfl kk; simp only [List.length_append, List.length_singleton] at h; exact h _ _ _ _ _ _ _ _ _)
      · intro hb
        try simp only [hB, decide_eq_true_eq, decide_eq_false_iff_not] at hb
        have hjE : j = n.E.length := by omega
        subst hjE
        refine AW.keep [2, 3, 8, 9, 11] [3, 17, 20, 34] ?_
        try simp only [go_sem, reduceIte, reduceCtorEq, Nat.reduceAdd, Nat.reduceMul, Nat.reduceEqDiff, Nat.reduceLT, Nat.reduceLeDiff, Nat.reduceSub, Nat.reducePow, Nat.reduceBEq, Int.reduceToNat, List.reduceReplicate]
        refine AW.exit ?_
        rw [← hQl3]
        rw [← hQl2]
        change Exists _
        refine ⟨_, ?hm, f, ?_, ?_, ?_, ?_, ?_, ?_, ?_, ?_, ?_, ?_, su, rfl, ?henv, ?hstore, ?hst⟩
        case henv =>
          repeat' (first | rfl | refine env_cons ?_ ?_ | refine st_cons ?_ ?_ ?_ ?_ | refine int_eq ?_ | refine bool_eq ?_ | refine rsl_eq ?_ | refine osl_eq ?_ | refine sl_eq ?_ ?_ ?_ | refine ptr_eq ?_ ?_ ?_ | refine agg_eq ?_ | refine es_cons ?_ ?_ | refine row_cons ?_ ?_)
          all_goals (first | (simp; done) | omega | (simp; omega))
        case hstore =>
          repeat' (first | rfl | refine env_cons ?_ ?_ | refine st_cons ?_ ?_ ?_ ?_ | refine int_eq ?_ | refine bool_eq ?_ | refine rsl_eq ?_ | refine osl_eq ?_ | refine sl_eq ?_ ?_ ?_ | refine ptr_eq ?_ ?_ ?_ | refine agg_eq ?_ | refine es_cons ?_ ?_ | refine row_cons ?_ ?_)
          all_goals (first | (simp; done) | omega | (simp; omega))
        case hst =>
          exact ⟨hqu, by rw [hsu]; exact hbf, hLu⟩
        case hm => omega
    · intro hb
      try simp only [hB, decide_eq_true_eq, decide_eq_false_iff_not] at hb
      have hst : st.2.2 = [] := by
        cases h : st.2.2 with
        | nil => rfl
        | cons a b => simp [h] at hb; omega
      have hfin : (st.1, st.2.1) = r := by
        cases f <;> simp [rbfs, hst] at hbf <;> exact hbf
      subst hfin
      refine AW.keep [8, 9] [17, 20] ?_
      try simp only [go_sem, reduceIte, reduceCtorEq, Nat.reduceAdd, Nat.reduceMul, Nat.reduceEqDiff, Nat.reduceLT, Nat.reduceLeDiff, Nat.reduceSub, Nat.reducePow, Nat.reduceBEq, Int.reduceToNat, List.reduceReplicate]
      refine AW.exit ?_
      rw [← hQl2]
      refine hK11 _ _ _ ?_; clear hK11
      refine AW.seq fun K31 hK31 => ?_
      -- region 24
      refine AW.regionK 0 (fun _ => none) [6, 7] [17, 20] ?_
      simp only [go_sem, reduceIte, reduceCtorEq, Nat.reduceAdd, Nat.reduceMul, Nat.reduceEqDiff, Nat.reduceLT, Nat.reduceLeDiff, Nat.reduceSub, Nat.reducePow, Nat.reduceBEq, Int.reduceToNat, List.reduceReplicate]
      repeat with_reducible refine cj ?_ ?_
      all_goals try first | omega
      refine hK31 _ _ _ ?_; clear hK31
      refine AW.ret ?_
      rw [← hQr]
      simp only [go_sem, reduceIte, reduceCtorEq, Nat.reduceAdd, Nat.reduceMul, Nat.reduceEqDiff, Nat.reduceLT, Nat.reduceLeDiff, Nat.reduceSub, Nat.reducePow, Nat.reduceBEq, Int.reduceToNat, List.reduceReplicate]
      rw [List.take_of_length_le (by omega), List.take_of_length_le (by omega)]
      exact Wk.refl _
end Go.Proofs.F
namespace Go.Proofs.F
open Go.AM Go
set_option maxRecDepth 100000
set_option maxHeartbeats 2000000
theorem rmax_r (n : Net) (s t : Int) (hv : validB n = true) (hst : endsB n s t = true) (Inv : List Int → Prop) (hok : RefOk n s t Inv) (hI0 : Inv (List.replicate n.E.length 0)) (F : Nat) (r : List Int)
    (hr : rMaxP n s t F (List.replicate n.E.length 0) = some r) : Reads Try.prog 17 true [netV n, .int .i64 s, .int .i64 t] (.rsl 1 (ints r)) := by
  obtain ⟨hN1, hN2, hE⟩ := valid_size hv
  have hends : 0 ≤ s ∧ s < n.N ∧ 0 ≤ t ∧ t < n.N := by simp [endsB] at hst; omega
  have hrr := fun fl q hl hq => rreach_r n s fl hv hends.1 hends.2.1 hl q hq
  have hed : ∀ i, i < n.E.length → 0 ≤ (eAt n.E i).fr ∧ (eAt n.E i).fr < n.N ∧ 0 ≤ (eAt n.E i).to ∧ (eAt n.E i).to < n.N ∧ 0 ≤ (eAt n.E i).cap ∧ (eAt n.E i).cap ≤ 1125899906842624 := fun i hi => by have := valid_edge hv (eAt_get hi); omega
  have hev : ∀ i, i < n.E.length → (n.E.map edgeV).getD i [] = edgeV (eAt n.E i) := fun i hi => getV (eAt_get hi)
  unfold netV at *
  refine Reads.bodyF (rs := [.tmp 6]) Try.func17 rfl Try.ntmps17 rfl (by simp) ?_
  generalize hQr : retQ _ _ _ = Qr
  refine AW.seq fun K1 hK1 => ?_
  -- region 0
  refine AW.regionK 0 (fun _ => none) [1, 2, 3] [3] ?_
  simp only [go_sem, reduceIte, reduceCtorEq, Nat.reduceAdd, Nat.reduceMul, Nat.reduceEqDiff, Nat.reduceLT, Nat.reduceLeDiff, Nat.reduceSub, Nat.reducePow, Nat.reduceBEq, Int.reduceToNat, List.reduceReplicate]
  repeat with_reducible refine cj ?_ ?_
  all_goals try first | omega
  refine hK1 _ _ _ ?_; clear hK1
  refine AW.seq fun K2 hK2 => ?_
  -- region 1
  refine AW.regionK 0 (fun _ => none) [1, 2, 3, 7] [3, 16] ?_
  simp only [go_sem, reduceIte, reduceCtorEq, Nat.reduceAdd, Nat.reduceMul, Nat.reduceEqDiff, Nat.reduceLT, Nat.reduceLeDiff, Nat.reduceSub, Nat.reducePow, Nat.reduceBEq, Int.reduceToNat, List.reduceReplicate]
  repeat with_reducible refine cj ?_ ?_
  all_goals try first | omega
  refine hK2 _ _ _ ?_; clear hK2
  refine AW.block ?_
  -- loop 1
  refine AW.loopE (fun mm ee ss kk => ∃ (ff g v g3 v3 : Nat) (fl : List Int), ff + 1 = mm ∧ ee = [(1, .int .i64 s), (2, .int .i64 t), (3, .ptr ⟨3, g3, none⟩ 0 0), (7, .sl ⟨16, g, none⟩ 0 fl.length none)] ∧ ss = [(3, some ⟨g3, v3, 2, [[.int .i64 n.N, .rsl 3 (n.E.map edgeV)]]⟩), (16, some ⟨g, v, 1, ints fl⟩)] ∧ (Inv fl ∧ rMaxP n s t ff fl = some r)) ?_ ?_
  · refine ⟨_, F, ?_, ?_, ?_, ?_, List.replicate n.E.length 0, rfl, ?henv, ?hstore, ?hst⟩
    case henv =>
      repeat' (first | rfl | refine env_cons ?_ ?_ | refine st_cons ?_ ?_ ?_ ?_ | refine int_eq ?_ | refine bool_eq ?_ | refine rsl_eq ?_ | refine osl_eq ?_ | refine sl_eq ?_ ?_ ?_ | refine ptr_eq ?_ ?_ ?_ | refine agg_eq ?_ | refine es_cons ?_ ?_ | refine row_cons ?_ ?_)
      all_goals (first | (simp; done) | omega | (simp; omega))
    case hstore =>
      repeat' (first | rfl | refine env_cons ?_ ?_ | refine st_cons ?_ ?_ ?_ ?_ | refine int_eq ?_ | refine bool_eq ?_ | refine rsl_eq ?_ | refine osl_eq ?_ | refine sl_eq ?_ ?_ ?_ | refine ptr_eq ?_ ?_ ?_ | refine agg_eq ?_ | refine es_cons ?_ ?_ | refine row_cons ?_ ?_)
      all_goals simp [ints]
    case hst =>
      exact ⟨hI0, hr⟩
  rintro mm ee ss kk ⟨ff, g, v, g3, v3, fl, rfl, rfl, rfl, hI⟩
  generalize hQl1 : thenQ _ _ = Ql1
  obtain ⟨hIf, hrf⟩ := hI
  obtain ⟨hfl, hfb⟩ := hok.wf _ hIf
  obtain ⟨ff, rfl⟩ : ∃ f', ff = f' + 1 := by
    cases ff with
    | zero => cases hrf
    | succ f => exact ⟨f, rfl⟩
  unfold rMaxP at hrf
  cases hq : rReach n s fl with
  | none => rw [hq] at hrf; cases hrf
  | some q =>
  rw [hq] at hrf
  simp only at hrf
  obtain ⟨hq1, hq2, hq3⟩ := hok.by_ _ _ hIf hq
  have hgq := bools_getD (l := q.1) (i := t.toNat) (by omega)
  have hbk : ∀ i, i < n.N.toNat → q.2.getD i 0 < n.E.length ∧ -2 - q.2.getD i 0 < n.E.length := fun i hi => hq3 _ (mem_getD (by omega) 0)
  refine AW.block ?_
  refine AW.seq fun K3 hK3 => ?_
  -- region 2
  refine AW.regionK 0 (fun i => if i = 3 then some (.reads true (.tup [.rsl 1 (bools q.1), .rsl 1 (ints q.2)])) else none) [1, 2, 3, 7, 8, 9] [3, 16] ?_
  simp only [go_sem, reduceIte, reduceCtorEq, Nat.reduceAdd, Nat.reduceMul, Nat.reduceEqDiff, Nat.reduceLT, Nat.reduceLeDiff, Nat.reduceSub, Nat.reducePow, Nat.reduceBEq, Int.reduceToNat, List.reduceReplicate]
  repeat with_reducible refine cj ?_ ?_
  all_goals try first | (exact hrr fl q hfl hq) | omega | exact ent (by kernel_rfl)
  refine hK3 _ _ _ ?_; clear hK3
  refine AW.seq fun K4 hK4 => ?_
  refine AW.seq fun K5 hK5 => ?_
  -- region 3
  refine AW.regionK 0 (fun _ => none) [1, 2, 3, 7, 9, 28] [3, 16] ?_
  simp only [go_sem, reduceIte, reduceCtorEq, Nat.reduceAdd, Nat.reduceMul, Nat.reduceEqDiff, Nat.reduceLT, Nat.reduceLeDiff, Nat.reduceSub, Nat.reducePow, Nat.reduceBEq, Int.reduceToNat, List.reduceReplicate, hgq]
  repeat with_reducible refine cj ?_ ?_
  all_goals try first | omega
  refine hK5 _ _ _ ?_; clear hK5
  -- cond 1
  refine AW.cond rfl (by simp only [go_sem, reduceIte, reduceCtorEq, Nat.reduceAdd, Nat.reduceMul, Nat.reduceEqDiff, Nat.reduceLT, Nat.reduceLeDiff, Nat.reduceSub, Nat.reducePow, Nat.reduceBEq, Int.reduceToNat, List.reduceReplicate]) ?_ ?_
  · intro hb
    try simp only [hB, decide_eq_true_eq, decide_eq_false_iff_not] at hb
    rw [if_pos hb] at hrf
    obtain rfl := Option.some.inj hrf
    refine AW.seq fun K6 hK6 => ?_
    -- region 4
    refine AW.regionK 0 (fun _ => none) [6] [16] ?_
    simp only [go_sem, reduceIte, reduceCtorEq, Nat.reduceAdd, Nat.reduceMul, Nat.reduceEqDiff, Nat.reduceLT, Nat.reduceLeDiff, Nat.reduceSub, Nat.reducePow, Nat.reduceBEq, Int.reduceToNat, List.reduceReplicate]
    repeat with_reducible refine cj ?_ ?_
    all_goals try first | omega
    refine hK6 _ _ _ ?_; clear hK6
    refine AW.ret ?_
    rw [← hQl1]
    rw [← hQr]
    simp only [go_sem, reduceIte, reduceCtorEq, Nat.reduceAdd, Nat.reduceMul, Nat.reduceEqDiff, Nat.reduceLT, Nat.reduceLeDiff, Nat.reduceSub, Nat.reducePow, Nat.reduceBEq, Int.reduceToNat, List.reduceReplicate]
    exact Wk.refl _
  · intro hb
    try simp only [hB, decide_eq_true_eq, decide_eq_false_iff_not] at hb
    rw [if_neg (by rw [hb]; simp)] at hrf
    cases hp : rTrace n.E q.2 s (n.N.toNat + 1) t with
    | none => rw [hp] at hrf; cases hrf
    | some tr =>
    rw [hp] at hrf
    simp only at hrf
    obtain ⟨hm0, hm1, hI2⟩ := hok.step _ _ _ hIf hq hb hp
    have htl := rTrace_len hp
    refine AW.skip ?_
    refine hK4 _ _ _ ?_; clear hK4
    refine AW.seq fun K7 hK7 => ?_
    -- region 5
    refine AW.regionK 0 (fun _ => none) [1, 2, 3, 7, 9, 10] [3, 16] ?_
    simp only [go_sem, reduceIte, reduceCtorEq, Nat.reduceAdd, Nat.reduceMul, Nat.reduceEqDiff, Nat.reduceLT, Nat.reduceLeDiff, Nat.reduceSub, Nat.reducePow, Nat.reduceBEq, Int.reduceToNat, List.reduceReplicate]
    repeat with_reducible refine cj ?_ ?_
    all_goals try first | omega
    refine hK7 _ _ _ ?_; clear hK7
    refine AW.seq fun K8 hK8 => ?_
    refine AW.seq fun K9 hK9 => ?_
    -- region 6
    refine AW.regionK 0 (fun _ => none) [1, 2, 3, 7, 9, 10, 11] [3, 16] ?_
    simp only [go_sem, reduceIte, reduceCtorEq, Nat.reduceAdd, Nat.reduceMul, Nat.reduceEqDiff, Nat.reduceLT, Nat.reduceLeDiff, Nat.reduceSub, Nat.reducePow, Nat.reduceBEq, Int.reduceToNat, List.reduceReplicate]
    repeat with_reducible refine cj ?_ ?_
    all_goals try first | omega
    refine hK9 _ _ _ ?_; clear hK9
    refine AW.block ?_
    -- loop 2
    refine AW.loopE (fun mm ee ss kk => ∃ (f : Nat) (u : Int) (pre rest : List Int), f + 1 = mm ∧ ee = [(1, .int .i64 s), (2, .int .i64 t), (3, .ptr ⟨3, g3, none⟩ 0 0), (7, .sl ⟨16, g, none⟩ 0 fl.length none), (9, .rsl 1 (ints q.2)), (10, .int .i64 (rMost n.E fl pre)), (11, .int .i64 u)] ∧ ss = [(3, some ⟨g3, v3, 2, [[.int .i64 n.N, .rsl 3 (n.E.map edgeV)]]⟩), (16, some ⟨g, v, 1, ints fl⟩)] ∧ (0 ≤ u ∧ u < n.N ∧ rTrace n.E q.2 s f u = some rest ∧ tr = pre ++ rest)) ?_ ?_
    · refine ⟨_, n.N.toNat + 1, t, [], tr, rfl, ?henv, ?hstore, ?hst⟩
      case henv =>
        repeat' (first | rfl | refine env_cons ?_ ?_ | refine st_cons ?_ ?_ ?_ ?_ | refine int_eq ?_ | refine bool_eq ?_ | refine rsl_eq ?_ | refine osl_eq ?_ | refine sl_eq ?_ ?_ ?_ | refine ptr_eq ?_ ?_ ?_ | refine agg_eq ?_ | refine es_cons ?_ ?_ | refine row_cons ?_ ?_)
        all_goals (first | (simp; done) | omega | (simp; omega))
      case hstore =>
        repeat' (first | rfl | refine env_cons ?_ ?_ | refine st_cons ?_ ?_ ?_ ?_ | refine int_eq ?_ | refine bool_eq ?_ | refine rsl_eq ?_ | refine osl_eq ?_ | refine sl_eq ?_ ?_ ?_ | refine ptr_eq ?_ ?_ ?_ | refine agg_eq ?_ | refine es_cons ?_ ?_ | refine row_cons ?_ ?_)
        all_goals (first | (simp; done) | omega | (simp; omega))
      case hst =>
        exact ⟨by omega, by omega, hp, rfl⟩
    rintro mm ee ss kk ⟨f, u, pre, rest, rfl, rfl, rfl, hI⟩
    generalize hQl2 : thenQ _ _ = Ql2
    obtain ⟨hu0, hu1, hpu, hks⟩ := hI
    have hgu := ints_getD (l := q.2) (i := u.toNat) (by omega)
    have hbu := hbk u.toNat (by omega)
    generalize hkk : q.2.getD u.toNat 0 = b0 at *
    refine AW.seq fun K10 hK10 => ?_
    refine AW.seq fun K11 hK11 => ?_
    -- region 7
    refine AW.regionK 0 (fun _ => none) [1, 2, 3, 7, 9, 10, 11, 33] [3, 16] ?_
    simp only [go_sem, reduceIte, reduceCtorEq, Nat.reduceAdd, Nat.reduceMul, Nat.reduceEqDiff, Nat.reduceLT, Nat.reduceLeDiff, Nat.reduceSub, Nat.reducePow, Nat.reduceBEq, Int.reduceToNat, List.reduceReplicate]
    repeat with_reducible refine cj ?_ ?_
    all_goals try first | omega
    refine hK11 _ _ _ ?_; clear hK11
    -- cond 2
    refine AW.cond rfl (by simp only [go_sem, reduceIte, reduceCtorEq, Nat.reduceAdd, Nat.reduceMul, Nat.reduceEqDiff, Nat.reduceLT, Nat.reduceLeDiff, Nat.reduceSub, Nat.reducePow, Nat.reduceBEq, Int.reduceToNat, List.reduceReplicate]) ?_ ?_
    · intro hb
      try simp only [hB, decide_eq_true_eq, decide_eq_false_iff_not] at hb
      obtain ⟨f', l, rfl, rfl, hpl⟩ := rTrace_step hpu hb
      rw [hkk] at hpl hks
      have hms := rMost_snoc n.E fl pre b0
      refine AW.skip ?_
      refine hK10 _ _ _ ?_; clear hK10
      refine AW.block ?_
      refine AW.seq fun K12 hK12 => ?_
      -- region 8
      refine AW.regionK 0 (fun _ => none) [1, 2, 3, 7, 9, 10, 11, 38] [3, 16] ?_
      simp only [go_sem, reduceIte, reduceCtorEq, Nat.reduceAdd, Nat.reduceMul, Nat.reduceEqDiff, Nat.reduceLT, Nat.reduceLeDiff, Nat.reduceSub, Nat.reducePow, Nat.reduceBEq, Int.reduceToNat, List.reduceReplicate, hgu]
      repeat with_reducible refine cj ?_ ?_
      all_goals try first | omega
      refine hK12 _ _ _ ?_; clear hK12
      -- cond 3
      refine AW.cond rfl (by simp only [go_sem, reduceIte, reduceCtorEq, Nat.reduceAdd, Nat.reduceMul, Nat.reduceEqDiff, Nat.reduceLT, Nat.reduceLeDiff, Nat.reduceSub, Nat.reducePow, Nat.reduceBEq, Int.reduceToNat, List.reduceReplicate]) ?_ ?_
      · intro hb
        try simp only [hB, decide_eq_true_eq, decide_eq_false_iff_not] at hb
        have hpl2 := hpl.resolve_right (by omega)
        have hgE := hev b0.toNat (by omega)
        have hgf := ints_getD (l := fl) (i := b0.toNat) (by omega)
        have hee := hed b0.toNat (by omega)
        have hfb0 := hfb b0.toNat
        rw [room, if_pos hb, mn] at hms
        refine AW.seq fun K13 hK13 => ?_
        -- region 9
        refine AW.regionD mixed 0 (fun _ => none) [1, 2, 3, 7, 9, 10, 11] [3, 16] ?_
        simp only [go_sem, reduceIte, reduceCtorEq, Nat.reduceAdd, Nat.reduceMul, Nat.reduceEqDiff, Nat.reduceLT, Nat.reduceLeDiff, Nat.reduceSub, Nat.reducePow, Nat.reduceBEq, Int.reduceToNat, List.reduceReplicate, hgu, hgE, hgf, edgeV]
        repeat with_reducible refine cj ?_ ?_
        all_goals try first | omega | exact chk (by kernel_rfl)
        refine hK13 _ _ _ ?_; clear hK13
        -- region 10
        refine AW.regionD mixed 0 (fun _ => none) [1, 2, 3, 7, 9, 10, 11] [3, 16] ?_
        simp only [go_sem, reduceIte, reduceCtorEq, Nat.reduceAdd, Nat.reduceMul, Nat.reduceEqDiff, Nat.reduceLT, Nat.reduceLeDiff, Nat.reduceSub, Nat.reducePow, Nat.reduceBEq, Int.reduceToNat, List.reduceReplicate, hgu, hgE, edgeV]
        repeat with_reducible refine cj ?_ ?_
        all_goals try first | omega | exact chk (by kernel_rfl)
        rw [← hQl2]
        change Exists _
        refine ⟨_, ?hm, f', ?_, pre ++ [b0], l, rfl, ?henv, ?hstore, ?hst⟩
        case henv =>
          repeat' (first | rfl | refine env_cons ?_ ?_ | refine st_cons ?_ ?_ ?_ ?_ | refine int_eq ?_ | refine bool_eq ?_ | refine rsl_eq ?_ | refine osl_eq ?_ | refine sl_eq ?_ ?_ ?_ | refine ptr_eq ?_ ?_ ?_ | refine agg_eq ?_ | refine es_cons ?_ ?_ | refine row_cons ?_ ?_)
          all_goals (rw [hms])
        case hstore =>
          repeat' (first | rfl | refine env_cons ?_ ?_ | refine st_cons ?_ ?_ ?_ ?_ | refine int_eq ?_ | refine bool_eq ?_ | refine rsl_eq ?_ | refine osl_eq ?_ | refine sl_eq ?_ ?_ ?_ | refine ptr_eq ?_ ?_ ?_ | refine agg_eq ?_ | refine es_cons ?_ ?_ | refine row_cons ?_ ?_)
          all_goals (first | (simp; done) | omega | (simp; omega))
        case hst =>
          exact ⟨by omega, by omega, hpl2.2, by rw [hks]; simp⟩
        case hm => omega
      · intro hb
        try simp only [hB, decide_eq_true_eq, decide_eq_false_iff_not] at hb
        have hpl2 := hpl.resolve_left (by omega)
        have hgE := hev (-2 - b0).toNat (by omega)
        have hgf := ints_getD (l := fl) (i := (-2 - b0).toNat) (by omega)
        have hee := hed (-2 - b0).toNat (by omega)
        have hfb0 := hfb (-2 - b0).toNat
        rw [room, if_neg (by omega), mn] at hms
        refine AW.seq fun K14 hK14 => ?_
        -- region 11
        refine AW.regionK 0 (fun _ => none) [1, 2, 3, 7, 9, 10, 11] [3, 16] ?_
        simp only [go_sem, reduceIte, reduceCtorEq, Nat.reduceAdd, Nat.reduceMul, Nat.reduceEqDiff, Nat.reduceLT, Nat.reduceLeDiff, Nat.reduceSub, Nat.reducePow, Nat.reduceBEq, Int.reduceToNat, List.reduceReplicate, hgu, hgf]
        repeat with_reducible refine cj ?_ ?_
        all_goals try first | omega
        refine hK14 _ _ _ ?_; clear hK14
        -- region 12
        refine AW.regionD mixed 0 (fun _ => none) [1, 2, 3, 7, 9, 10, 11] [3, 16] ?_
        simp only [go_sem, reduceIte, reduceCtorEq, Nat.reduceAdd, Nat.reduceMul, Nat.reduceEqDiff, Nat.reduceLT, Nat.reduceLeDiff, Nat.reduceSub, Nat.reducePow, Nat.reduceBEq, Int.reduceToNat, List.reduceReplicate, hgu, hgE, edgeV]
        repeat with_reducible refine cj ?_ ?_
        all_goals try first | omega | exact chk (by kernel_rfl)
        rw [← hQl2]
        change Exists _
        refine ⟨_, ?hm, f', ?_, pre ++ [b0], l, rfl, ?henv, ?hstore, ?hst⟩
        case henv =>
          repeat' (first | rfl | refine env_cons ?_ ?_ | refine st_cons ?_ ?_ ?_ ?_ | refine int_eq ?_ | refine bool_eq ?_ | refine rsl_eq ?_ | refine osl_eq ?_ | refine sl_eq ?_ ?_ ?_ | refine ptr_eq ?_ ?_ ?_ | refine agg_eq ?_ | refine es_cons ?_ ?_ | refine row_cons ?_ ?_)
          all_goals (rw [hms])
        case hstore =>
          repeat' (first | rfl | refine env_cons ?_ ?_ | refine st_cons ?_ ?_ ?_ ?_ | refine int_eq ?_ | refine bool_eq ?_ | refine rsl_eq ?_ | refine osl_eq ?_ | refine sl_eq ?_ ?_ ?_ | refine ptr_eq ?_ ?_ ?_ | refine agg_eq ?_ | refine es_cons ?_ ?_ | refine row_cons ?_ ?_)
          all_goals (first | (simp; done) | omega | (simp; omega))
        case hst =>
          exact ⟨by omega, by omega, hpl2.2, by rw [hks]; simp⟩
        case hm => omega
    · intro hb
      try simp only [hB, decide_eq_true_eq, decide_eq_false_iff_not] at hb
      have hb' : s = u := hb.symm
      subst hb'
      obtain rfl := rTrace_stop hpu
      obtain rfl : tr = pre := by rw [hks]; simp
      generalize hM : rMost n.E fl tr = M at *
      refine AW.keep [1, 2, 3, 7, 9, 10] [3, 16] ?_
      try simp only [go_sem, reduceIte, reduceCtorEq, Nat.reduceAdd, Nat.reduceMul, Nat.reduceEqDiff, Nat.reduceLT, Nat.reduceLeDiff, Nat.reduceSub, Nat.reducePow, Nat.reduceBEq, Int.reduceToNat, List.reduceReplicate]
      refine AW.exit ?_
      rw [← hQl2]
      refine hK8 _ _ _ ?_; clear hK8
      refine AW.seq fun K15 hK15 => ?_
      -- region 13
      refine AW.regionK 0 (fun _ => none) [1, 2, 3, 7, 9, 10, 12] [3, 16] ?_
      simp only [go_sem, reduceIte, reduceCtorEq, Nat.reduceAdd, Nat.reduceMul, Nat.reduceEqDiff, Nat.reduceLT, Nat.reduceLeDiff, Nat.reduceSub, Nat.reducePow, Nat.reduceBEq, Int.reduceToNat, List.reduceReplicate]
      repeat with_reducible refine cj ?_ ?_
      all_goals try first | omega
      refine hK15 _ _ _ ?_; clear hK15
      refine AW.block ?_
      -- loop 3
      refine AW.loopE (fun mm ee ss kk => ∃ (f gg w : Nat) (u : Int) (pre rest A : List Int), f + 1 = mm ∧ ee = [(1, .int .i64 s), (2, .int .i64 t), (3, .ptr ⟨3, g3, none⟩ 0 0), (7, .sl ⟨16, gg, none⟩ 0 fl.length none), (9, .rsl 1 (ints q.2)), (10, .int .i64 M), (12, .int .i64 u)] ∧ ss = [(3, some ⟨g3, v3, 2, [[.int .i64 n.N, .rsl 3 (n.E.map edgeV)]]⟩), (16, some ⟨gg, w, 1, ints A⟩)] ∧ (0 ≤ u ∧ u < n.N ∧ rTrace n.E q.2 s f u = some rest ∧ tr = pre ++ rest ∧ A = rAug M fl pre ∧ A.length = fl.length ∧ ∀ i, -(1125899906842624 + 1125899906842624 * (pre.length : Int)) ≤ A.getD i 0 ∧ A.getD i 0 ≤ 1125899906842624 + 1125899906842624 * (pre.length : Int))) ?_ ?_
      · refine ⟨_, n.N.toNat + 1, ?_, ?_, t, [], tr, fl, rfl, ?henv, ?hstore, ?hst⟩
        case henv =>
          repeat' (first | rfl | refine env_cons ?_ ?_ | refine st_cons ?_ ?_ ?_ ?_ | refine int_eq ?_ | refine bool_eq ?_ | refine rsl_eq ?_ | refine osl_eq ?_ | refine sl_eq ?_ ?_ ?_ | refine ptr_eq ?_ ?_ ?_ | refine agg_eq ?_ | refine es_cons ?_ ?_ | refine row_cons ?_ ?_)
          all_goals (first | (simp; done) | omega | (simp; omega))
        case hstore =>
          repeat' (first | rfl | refine env_cons ?_ ?_ | refine st_cons ?_ ?_ ?_ ?_ | refine int_eq ?_ | refine bool_eq ?_ | refine rsl_eq ?_ | refine osl_eq ?_ | refine sl_eq ?_ ?_ ?_ | refine ptr_eq ?_ ?_ ?_ | refine agg_eq ?_ | refine es_cons ?_ ?_ | refine row_cons ?_ ?_)
          all_goals (first | (simp; done) | omega | (simp; omega))
        case hst =>
          exact ⟨by omega, by omega, hp, rfl, rfl, rfl, fun i => by have := hfb i; simp only [List.length_nil]; omega⟩
      rintro mm ee ss kk ⟨f, gg, w, u, pre, rest, A, rfl, rfl, rfl, hI⟩
      generalize hQl3 : thenQ _ _ = Ql3
      obtain ⟨hu0, hu1, hpu, hks, hA, hAl, hAb⟩ := hI
      have hgu := ints_getD (l := q.2) (i := u.toNat) (by omega)
      have hbu := hbk u.toNat (by omega)
      generalize hkk : q.2.getD u.toNat 0 = b0 at *
      have hpl1 : pre.length ≤ 512 := by have := congrArg List.length hks; simp at this; omega
      refine AW.seq fun K16 hK16 => ?_
      refine AW.seq fun K17 hK17 => ?_
      -- region 14
      refine AW.regionK 0 (fun _ => none) [1, 2, 3, 7, 9, 10, 12, 90] [3, 16] ?_
      simp only [go_sem, reduceIte, reduceCtorEq, Nat.reduceAdd, Nat.reduceMul, Nat.reduceEqDiff, Nat.reduceLT, Nat.reduceLeDiff, Nat.reduceSub, Nat.reducePow, Nat.reduceBEq, Int.reduceToNat, List.reduceReplicate]
      repeat with_reducible refine cj ?_ ?_
      all_goals try first | omega
      refine hK17 _ _ _ ?_; clear hK17
      -- cond 4
      refine AW.cond rfl (by simp only [go_sem, reduceIte, reduceCtorEq, Nat.reduceAdd, Nat.reduceMul, Nat.reduceEqDiff, Nat.reduceLT, Nat.reduceLeDiff, Nat.reduceSub, Nat.reducePow, Nat.reduceBEq, Int.reduceToNat, List.reduceReplicate]) ?_ ?_
      · intro hb
        try simp only [hB, decide_eq_true_eq, decide_eq_false_iff_not] at hb
        obtain ⟨f', l, rfl, rfl, hpl⟩ := rTrace_step hpu hb
        rw [hkk] at hpl hks
        have hms := rAug_snoc M fl pre b0
        rw [← hA] at hms
        have hb2 := rPut_bnd hAb hm0 b0
        have hb3 := rPut_len M A b0
        refine AW.skip ?_
        refine hK16 _ _ _ ?_; clear hK16
        refine AW.block ?_
        refine AW.seq fun K18 hK18 => ?_
        -- region 15
        refine AW.regionK 0 (fun _ => none) [1, 2, 3, 7, 9, 10, 12, 95] [3, 16] ?_
        simp only [go_sem, reduceIte, reduceCtorEq, Nat.reduceAdd, Nat.reduceMul, Nat.reduceEqDiff, Nat.reduceLT, Nat.reduceLeDiff, Nat.reduceSub, Nat.reducePow, Nat.reduceBEq, Int.reduceToNat, List.reduceReplicate, hgu]
        repeat with_reducible refine cj ?_ ?_
        all_goals try first | omega
        refine hK18 _ _ _ ?_; clear hK18
        -- cond 5
        refine AW.cond rfl (by simp only [go_sem, reduceIte, reduceCtorEq, Nat.reduceAdd, Nat.reduceMul, Nat.reduceEqDiff, Nat.reduceLT, Nat.reduceLeDiff, Nat.reduceSub, Nat.reducePow, Nat.reduceBEq, Int.reduceToNat, List.reduceReplicate]) ?_ ?_
        · intro hb
          try simp only [hB, decide_eq_true_eq, decide_eq_false_iff_not] at hb
          have hpl2 := hpl.resolve_right (by omega)
          have hgE := hev b0.toNat (by omega)
          have hgf := ints_getD (l := A) (i := b0.toNat) (by omega)
          have hee := hed b0.toNat (by omega)
          have hfb0 := hAb b0.toNat
          have hms2 : rPut M A b0 = A.set b0.toNat (A.getD b0.toNat 0 + M) := by rw [rPut, if_pos hb]
          refine AW.seq fun K19 hK19 => ?_
          -- region 16
          refine AW.regionD mixed 0 (fun _ => none) [1, 2, 3, 7, 9, 10, 12] [3, 16] ?_
          simp only [go_sem, reduceIte, reduceCtorEq, Nat.reduceAdd, Nat.reduceMul, Nat.reduceEqDiff, Nat.reduceLT, Nat.reduceLeDiff, Nat.reduceSub, Nat.reducePow, Nat.reduceBEq, Int.reduceToNat, List.reduceReplicate, hgu, hgf]
          repeat with_reducible refine cj ?_ ?_
          all_goals try first | omega | exact chk (by kernel_rfl)
          refine hK19 _ _ _ ?_; clear hK19
          -- region 17
          refine AW.regionD mixed 0 (fun _ => none) [1, 2, 3, 7, 9, 10, 12] [3, 16] ?_
          simp only [go_sem, reduceIte, reduceCtorEq, Nat.reduceAdd, Nat.reduceMul, Nat.reduceEqDiff, Nat.reduceLT, Nat.reduceLeDiff, Nat.reduceSub, Nat.reducePow, Nat.reduceBEq, Int.reduceToNat, List.reduceReplicate, hgu, hgE, edgeV]
          repeat with_reducible refine cj ?_ ?_
          all_goals try first | omega | exact chk (by kernel_rfl)
          rw [← hQl3]
          change Exists _
          refine ⟨_, ?hm, f', ?_, ?_, ?_, pre ++ [b0], l, rPut M A b0, rfl, ?henv, ?hstore, ?hst⟩
          case henv =>
            repeat' (first | rfl | refine env_cons ?_ ?_ | refine st_cons ?_ ?_ ?_ ?_ | refine int_eq ?_ | refine bool_eq ?_ | refine rsl_eq ?_ | refine osl_eq ?_ | refine sl_eq ?_ ?_ ?_ | refine ptr_eq ?_ ?_ ?_ | refine agg_eq ?_ | refine es_cons ?_ ?_ | refine row_cons ?_ ?_)
            all_goals (first | (simp; done) | omega | (simp; omega))
          case hstore =>
            repeat' (first | rfl | refine env_cons ?_ ?_ | refine st_cons ?_ ?_ ?_ ?_ | refine int_eq ?_ | refine bool_eq ?_ | refine rsl_eq ?_ | refine osl_eq ?_ | refine sl_eq ?_ ?_ ?_ | refine ptr_eq ?_ ?_ ?_ | refine agg_eq ?_ | refine es_cons ?_ ?_ | refine row_cons ?_ ?_)
            all_goals (rw [hms2])
          case hst =>
            exact ⟨by omega, by omega, hpl2.2, by rw [hks]; simp, by rw [hms], by omega, fun i => by have := hb2 i; simp only [List.length_append, List.length_singleton]; omega⟩
          case hm => omega
        · intro hb
          try simp only [hB, decide_eq_true_eq, decide_eq_false_iff_not] at hb
          have hpl2 := hpl.resolve_left (by omega)
          have hgE := hev (-2 - b0).toNat (by omega)
          have hgf := ints_getD (l := A) (i := (-2 - b0).toNat) (by omega)
          have hee := hed (-2 - b0).toNat (by omega)
          have hfb0 := hAb (-2 - b0).toNat
          have hms2 : rPut M A b0 = A.set (-2 - b0).toNat (A.getD (-2 - b0).toNat 0 - M) := by rw [rPut, if_neg (by omega)]
          refine AW.seq fun K20 hK20 => ?_
          -- region 18
          refine AW.regionD mixed 0 (fun _ => none) [1, 2, 3, 7, 9, 10, 12] [3, 16] ?_
          simp only [go_sem, reduceIte, reduceCtorEq, Nat.reduceAdd, Nat.reduceMul, Nat.reduceEqDiff, Nat.reduceLT, Nat.reduceLeDiff, Nat.reduceSub, Nat.reducePow, Nat.reduceBEq, Int.reduceToNat, List.reduceReplicate, hgu, hgf]
          repeat with_reducible refine cj ?_ ?_
          all_goals try first | omega | exact chk (by kernel_rfl)
          refine hK20 _ _ _ ?_; clear hK20
          -- region 19
          refine AW.regionD mixed 0 (fun _ => none) [1, 2, 3, 7, 9, 10, 12] [3, 16] ?_
          simp only [go_sem, reduceIte, reduceCtorEq, Nat.reduceAdd, Nat.reduceMul, Nat.reduceEqDiff, Nat.reduceLT, Nat.reduceLeDiff, Nat.reduceSub, Nat.reducePow, Nat.reduceBEq, Int.reduceToNat, List.reduceReplicate, hgu, hgE, edgeV]
          repeat with_reducible refine cj ?_ ?_
          all_goals try first | omega | exact chk (by kernel_rfl)
          rw [← hQl3]
          change Exists _
          refine ⟨_, ?hm, f', ?_, ?_, ?_, pre ++ [b0], l, rPut M A b0, rfl, ?henv, ?hstore, ?hst⟩
          case henv =>
            repeat' (first | rfl | refine env_cons ?_ ?_ | refine st_cons ?_ ?_ ?_ ?_ | refine int_eq ?_ | refine bool_eq ?_ | refine rsl_eq ?_ | refine osl_eq ?_ | refine sl_eq ?_ ?_ ?_ | refine ptr_eq ?_ ?_ ?_ | refine agg_eq ?_ | refine es_cons ?_ ?_ | refine row_cons ?_ ?_)
            all_goals (first | (simp; done) | omega | (simp; omega))
          case hstore =>
            repeat' (first | rfl | refine env_cons ?_ ?_ | refine st_cons ?_ ?_ ?_ ?_ | refine int_eq ?_ | refine bool_eq ?_ | refine rsl_eq ?_ | refine osl_eq ?_ | refine sl_eq ?_ ?_ ?_ | refine ptr_eq ?_ ?_ ?_ | refine agg_eq ?_ | refine es_cons ?_ ?_ | refine row_cons ?_ ?_)
            all_goals (rw [hms2])
          case hst =>
            exact ⟨by omega, by omega, hpl2.2, by rw [hks]; simp, by rw [hms], by omega, fun i => by have := hb2 i; simp only [List.length_append, List.length_singleton]; omega⟩
          case hm => omega
      · intro hb
        try simp only [hB, decide_eq_true_eq, decide_eq_false_iff_not] at hb
        have hb' : s = u := hb.symm
        subst hb'
        obtain rfl := rTrace_stop hpu
        obtain rfl : tr = pre := by rw [hks]; simp
        refine AW.keep [1, 2, 3, 7] [3, 16] ?_
        try simp only [go_sem, reduceIte, reduceCtorEq, Nat.reduceAdd, Nat.reduceMul, Nat.reduceEqDiff, Nat.reduceLT, Nat.reduceLeDiff, Nat.reduceSub, Nat.reducePow, Nat.reduceBEq, Int.reduceToNat, List.reduceReplicate]
        refine AW.exit ?_
        rw [← hQl3]
        rw [← hQl1]
        change Exists _
        refine ⟨_, ?hm, ff, ?_, ?_, ?_, ?_, A, rfl, ?henv, ?hstore, ?hst⟩
        case henv =>
          repeat' (first | rfl | refine env_cons ?_ ?_ | refine st_cons ?_ ?_ ?_ ?_ | refine int_eq ?_ | refine bool_eq ?_ | refine rsl_eq ?_ | refine osl_eq ?_ | refine sl_eq ?_ ?_ ?_ | refine ptr_eq ?_ ?_ ?_ | refine agg_eq ?_ | refine es_cons ?_ ?_ | refine row_cons ?_ ?_)
          all_goals (rw [hAl])
        case hstore =>
          repeat' (first | rfl | refine env_cons ?_ ?_ | refine st_cons ?_ ?_ ?_ ?_ | refine int_eq ?_ | refine bool_eq ?_ | refine rsl_eq ?_ | refine osl_eq ?_ | refine sl_eq ?_ ?_ ?_ | refine ptr_eq ?_ ?_ ?_ | refine agg_eq ?_ | refine es_cons ?_ ?_ | refine row_cons ?_ ?_)
          all_goals (first | (simp; done) | omega | (simp; omega))
        case hst =>
          subst hA; exact ⟨hI2, hrf⟩
        case hm => omega
end Go.Proofs.F
/- Flows: balances, cuts, the residual network. -/
namespace Go.AM

/-! ### Balances are linear. -/
def ind (p : Prop) [Decidable p] : Int := if p then 1 else 0
theorem balStep_eq (E : List Edg) (fl : List Int) (v : Int) (j : Nat) (a : Int) : balStep E fl v j a = a + (ind ((eAt E j).fr = v) - ind ((eAt E j).to = v)) * fl.getD j 0 := by
  unfold balStep ind
  split <;> split <;> simp <;> omega
theorem balAt_set (E : List Edg) (fl : List Int) (v : Int) (i : Nat) (hi : i < fl.length) (x : Int) : ∀ j, balAt E (fl.set i x) v j = balAt E fl v j + if i < j then (ind ((eAt E i).fr = v) - ind ((eAt E i).to = v)) * (x - fl.getD i 0) else 0
  | 0 => by simp [balAt]
  | j + 1 => by
    have ih := balAt_set E fl v i hi x j
    simp only [balAt, balStep_eq, ih]
    by_cases h : i = j
    · subst h
      rw [Go.AM.getD_set_eq hi, if_neg (by omega), if_pos (by omega), Int.mul_sub]
      omega
    · rw [Go.AM.getD_set_ne h]
      by_cases h2 : i < j
      · rw [if_pos h2, if_pos (by omega)]; omega
      · rw [if_neg h2, if_neg (by omega)]; omega

/-- The sum over the nodes of a set. -/
def sumOn (S : Int → Bool) (f : Int → Int) : Nat → Int
  | 0 => 0
  | u + 1 => sumOn S f u + if S u then f u else 0
theorem sumOn_add (S : Int → Bool) (f g : Int → Int) : ∀ n, sumOn S (fun u => f u + g u) n = sumOn S f n + sumOn S g n
  | 0 => by simp [sumOn]
  | n + 1 => by
    simp only [sumOn, sumOn_add S f g n]
    split <;> omega
theorem sumOn_zero (S : Int → Bool) : ∀ n, sumOn S (fun _ => 0) n = 0
  | 0 => rfl
  | n + 1 => by simp [sumOn, sumOn_zero S n]
theorem sumOn_one (S : Int → Bool) (a x : Int) (f : Int → Int) (ha : 0 ≤ a) (hx : S a = true → f a = x) : ∀ n : Nat, (∀ u : Int, 0 ≤ u → u < n → u ≠ a → S u = true → f u = 0) → sumOn S f n = if a < n ∧ S a = true then x else 0
  | 0, _ => by simp [sumOn]; omega
  | n + 1, hf => by
    have ih := sumOn_one S a x f ha hx n fun u h0 h1 => hf u h0 (by omega)
    simp only [sumOn, ih]
    by_cases h : a = n
    · subst h
      by_cases hs : S n = true
      · rw [if_neg (by omega), if_pos hs, if_pos ⟨by omega, hs⟩, hx hs]; omega
      · rw [if_neg (by omega), if_neg hs, if_neg (by rintro ⟨_, h⟩; exact hs h)]; omega
    · by_cases hs : S (n : Int) = true
      · rw [if_pos hs, hf n (by omega) (by omega) (Ne.symm h) hs, Int.add_zero]
        by_cases h2 : a < n ∧ S a = true
        · rw [if_pos h2, if_pos ⟨by omega, h2.2⟩]
        · rw [if_neg h2, if_neg (by rintro ⟨h3, h4⟩; exact h2 ⟨by omega, h4⟩)]
      · rw [if_neg hs, Int.add_zero]
        by_cases h2 : a < n ∧ S a = true
        · rw [if_pos h2, if_pos ⟨by omega, h2.2⟩]
        · rw [if_neg h2, if_neg (by rintro ⟨h3, h4⟩; exact h2 ⟨by omega, h4⟩)]

/-- What flows out of a set. -/
def netAt (E : List Edg) (S : Int → Bool) (fl : List Int) : Nat → Int
  | 0 => 0
  | j + 1 => netAt E S fl j + (ind (S (eAt E j).fr = true) - ind (S (eAt E j).to = true)) * fl.getD j 0
theorem sumOn_ind (S : Int → Bool) (a x : Int) (ha : 0 ≤ a) (n : Nat) (hn : a < n) : sumOn S (fun u => ind (a = u) * x) n = ind (S a = true) * x := by
  rw [sumOn_one S a x _ ha (fun _ => by simp [ind]) n (fun u _ _ hu _ => by simp [ind, Ne.symm hu])]
  unfold ind
  by_cases h : S a = true
  · rw [if_pos ⟨hn, h⟩, if_pos h]; omega
  · rw [if_neg (by rintro ⟨_, h2⟩; exact h h2), if_neg h]; omega
theorem sumOn_bal (E : List Edg) (S : Int → Bool) (fl : List Int) (N : Nat) (hE : ∀ i, i < E.length → 0 ≤ (eAt E i).fr ∧ (eAt E i).fr < N ∧ 0 ≤ (eAt E i).to ∧ (eAt E i).to < N) : ∀ j, j ≤ E.length → sumOn S (fun u => balAt E fl u j) N = netAt E S fl j
  | 0, _ => sumOn_zero S N
  | j + 1, hj => by
    have ih := sumOn_bal E S fl N hE j (by omega)
    obtain ⟨h1, h2, h3, h4⟩ := hE j (by omega)
    have e : (fun u => balAt E fl u (j + 1)) = fun u => (balAt E fl u j + ind ((eAt E j).fr = u) * fl.getD j 0) + ind ((eAt E j).to = u) * (-fl.getD j 0) := by
      funext u
      simp only [balAt, balStep_eq, Int.sub_mul, Int.mul_neg]
      omega
    rw [e, sumOn_add, sumOn_add, ih, sumOn_ind S _ _ h1 N h2, sumOn_ind S _ _ h3 N h4]
    simp only [netAt, Int.sub_mul, Int.mul_neg]
    omega

/-- The capacity of a set. -/
def capAt (E : List Edg) (S : Int → Bool) : Nat → Int
  | 0 => 0
  | j + 1 => capAt E S j + if S (eAt E j).fr = true ∧ S (eAt E j).to = false then (eAt E j).cap else 0
theorem net_le_cap (E : List Edg) (S : Int → Bool) (fl : List Int) (h : ∀ i, i < E.length → 0 ≤ fl.getD i 0 ∧ fl.getD i 0 ≤ (eAt E i).cap) : ∀ j, j ≤ E.length → netAt E S fl j ≤ capAt E S j
  | 0, _ => Int.le_refl _
  | j + 1, hj => by
    have ih := net_le_cap E S fl h j (by omega)
    have hb := h j (by omega)
    simp only [netAt, capAt]
    unfold ind
    generalize fl.getD j 0 = x at *
    cases h1 : S (eAt E j).fr <;> cases h2 : S (eAt E j).to <;> simp <;> omega
theorem net_eq_cap (E : List Edg) (S : Int → Bool) (fl : List Int) (h : ∀ i, i < E.length → (S (eAt E i).fr = true → S (eAt E i).to = false → fl.getD i 0 = (eAt E i).cap) ∧ (S (eAt E i).fr = false → S (eAt E i).to = true → fl.getD i 0 = 0)) : ∀ j, j ≤ E.length → netAt E S fl j = capAt E S j
  | 0, _ => rfl
  | j + 1, hj => by
    have ih := net_eq_cap E S fl h j (by omega)
    have hb := h j (by omega)
    simp only [netAt, capAt, ih]
    unfold ind
    generalize fl.getD j 0 = x at *
    cases h1 : S (eAt E j).fr <;> cases h2 : S (eAt E j).to <;> simp <;> (first | (have := hb.1 h1 h2; omega) | (have := hb.2 h1 h2; omega) | skip)

/-- A flow, as a law of its values. -/
structure IsFlow (n : Net) (s t : Int) (fl : List Int) : Prop where
  len : fl.length = n.E.length
  caps : ∀ i, i < n.E.length → 0 ≤ fl.getD i 0 ∧ fl.getD i 0 ≤ (eAt n.E i).cap
  cons : ∀ u : Int, 0 ≤ u → u < n.N → u ≠ s → u ≠ t → bal n fl u = 0
theorem flowB_iff {n : Net} {s t : Int} {fl : List Int} (hN : 0 ≤ n.N) : flowB n s t fl = true ↔ IsFlow n s t fl := by
  simp only [flowB, Bool.and_eq_true, decide_eq_true_eq, capsB, consB, List.all_eq_true, List.mem_range, Bool.or_eq_true]
  constructor
  · rintro ⟨⟨h1, h2⟩, h3⟩
    refine ⟨h1, h2, fun u hu0 hu1 hs ht => ?_⟩
    have := h3 u.toNat (by omega)
    rw [show ((u.toNat : Nat) : Int) = u by omega] at this
    rcases this with (h | h) | h
    · exact absurd h hs
    · exact absurd h ht
    · exact h
  · rintro ⟨h1, h2, h3⟩
    refine ⟨⟨h1, h2⟩, fun v hv => ?_⟩
    by_cases hs : (v : Int) = s
    · exact .inl (.inl hs)
    · by_cases ht : (v : Int) = t
      · exact .inl (.inr ht)
      · exact .inr (h3 v (by omega) (by omega) hs ht)
theorem edges_in {n : Net} (hv : validB n = true) : ∀ i, i < n.E.length → 0 ≤ (eAt n.E i).fr ∧ (eAt n.E i).fr < n.N.toNat ∧ 0 ≤ (eAt n.E i).to ∧ (eAt n.E i).to < n.N.toNat := fun i hi => by
  have := valid_edge hv (eAt_get hi); omega
/-- The value of a flow is what flows out of a set with the source and without the sink. -/
theorem value_net {n : Net} {s t : Int} {fl : List Int} (hv : validB n = true) (hs0 : 0 ≤ s) (hs1 : s < n.N) (h : IsFlow n s t fl) {S : Int → Bool} (hs : S s = true) (ht : S t = false) : bal n fl s = netAt n.E S fl n.E.length := by
  rw [← sumOn_bal n.E S fl n.N.toNat (edges_in hv) n.E.length (Nat.le_refl _)]
  rw [sumOn_one S s (bal n fl s) (fun u => balAt n.E fl u n.E.length) hs0 (fun _ => rfl) n.N.toNat (fun u h0 h1 hu hSu => h.cons u h0 (by omega) hu (fun e => by rw [e, ht] at hSu; cases hSu)), if_pos ⟨by omega, hs⟩]
/-- A flow that fills a cut has the greatest value. -/
theorem value_le {n : Net} {s t : Int} {fl gl : List Int} (hv : validB n = true) (hs0 : 0 ≤ s) (hs1 : s < n.N) (h : IsFlow n s t fl) (g : IsFlow n s t gl) {S : Int → Bool} (hs : S s = true) (ht : S t = false)
    (hfull : ∀ i, i < n.E.length → (S (eAt n.E i).fr = true → S (eAt n.E i).to = false → fl.getD i 0 = (eAt n.E i).cap) ∧ (S (eAt n.E i).fr = false → S (eAt n.E i).to = true → fl.getD i 0 = 0)) :
    bal n gl s ≤ bal n fl s := by
  rw [value_net hv hs0 hs1 h hs ht, value_net hv hs0 hs1 g hs ht, net_eq_cap n.E S fl hfull n.E.length (Nat.le_refl _)]
  exact net_le_cap n.E S gl g.caps n.E.length (Nat.le_refl _)
end Go.AM
/- Augmenting along a path. -/
namespace Go.AM
def okB (E : List Edg) (b : Int) : Prop := (0 ≤ b ∧ b < E.length) ∨ (b ≤ -2 ∧ -2 - b < E.length)
def idx (b : Int) : Nat := if 0 ≤ b then b.toNat else (-2 - b).toNat
def dstB (E : List Edg) (b : Int) : Int := if 0 ≤ b then (eAt E b.toNat).to else (eAt E (-2 - b).toNat).fr
def srcB (E : List Edg) (b : Int) : Int := if 0 ≤ b then (eAt E b.toNat).fr else (eAt E (-2 - b).toNat).to
def TrB (E : List Edg) (fl : List Int) (rank : Int → Nat) (s : Int) : List Int → Int → Prop
  | [], v => v = s
  | b :: l, v => okB E b ∧ dstB E b = v ∧ rank (srcB E b) < rank v ∧ 0 < room E fl b ∧ TrB E fl rank s l (srcB E b)
theorem TrB.rank_le {E : List Edg} {fl : List Int} {rank : Int → Nat} {s : Int} : ∀ {l : List Int} {v : Int}, TrB E fl rank s l v → ∀ b ∈ l, okB E b ∧ rank (dstB E b) ≤ rank v ∧ rank (srcB E b) < rank (dstB E b) ∧ 0 < room E fl b
  | [], _, _, b, hb => by cases hb
  | a :: l, v, h, b, hb => by
    obtain ⟨h1, h2, h3, h4, h5⟩ := h
    rcases List.mem_cons.1 hb with rfl | hb
    · rw [h2]; exact ⟨h1, Nat.le_refl _, h3, h4⟩
    · obtain ⟨k1, k2, k3, k4⟩ := h5.rank_le b hb
      exact ⟨k1, by omega, k3, k4⟩
theorem idxB_lt {E : List Edg} {b : Int} (h : okB E b) : idx b < E.length := by unfold idx; rcases h with h | h <;> split <;> omega
theorem same_idx {E : List Edg} {a b : Int} (ha : okB E a) (hb : okB E b) (h : idx a = idx b) : (dstB E a = dstB E b) ∨ (dstB E a = srcB E b ∧ srcB E a = dstB E b) := by
  unfold idx at h
  unfold dstB srcB
  rcases ha with ha | ha <;> rcases hb with hb | hb
  · rw [if_pos ha.1, if_pos hb.1] at h; left; rw [if_pos ha.1, if_pos hb.1, h]
  · rw [if_pos ha.1, if_neg (by omega)] at h; right; rw [if_pos ha.1, if_neg (by omega), if_pos ha.1, if_neg (by omega), h]; exact ⟨rfl, rfl⟩
  · rw [if_neg (by omega), if_pos hb.1] at h; right; rw [if_neg (by omega), if_pos hb.1, if_neg (by omega), if_pos hb.1, h]; exact ⟨rfl, rfl⟩
  · rw [if_neg (by omega), if_neg (by omega)] at h; left; rw [if_neg (by omega), if_neg (by omega), h]
theorem TrB.head_new {E : List Edg} {fl : List Int} {rank : Int → Nat} {s a v : Int} {l : List Int} (h : TrB E fl rank s (a :: l) v) : ∀ b ∈ l, idx b ≠ idx a := by
  intro b hb he
  obtain ⟨h1, h2, h3, h4, h5⟩ := h
  obtain ⟨k1, k2, k3, k4⟩ := h5.rank_le b hb
  rcases same_idx k1 h1 he with e | ⟨e1, e2⟩
  · rw [e, h2] at k2; omega
  · rw [e1, e2, h2] at k3; omega
theorem rPut_eq (m : Int) (fl : List Int) (b : Int) : rPut m fl b = fl.set (idx b) (fl.getD (idx b) 0 + if 0 ≤ b then m else -m) := by
  unfold rPut idx; split
  · rfl
  · congr 1
theorem room_eq {E : List Edg} (fl : List Int) (b : Int) : room E fl b = if 0 ≤ b then (eAt E (idx b)).cap - fl.getD (idx b) 0 else fl.getD (idx b) 0 := by
  unfold room idx; split <;> rfl
theorem rPut_room {E : List Edg} (m : Int) (fl : List Int) {a b : Int} (h : idx b ≠ idx a) : room E (rPut m fl a) b = room E fl b := by
  rw [room_eq, room_eq, rPut_eq, Go.AM.getD_set_ne (Ne.symm h)]
theorem rPut_bal {E : List Edg} {fl : List Int} (m : Int) {b : Int} (hb : okB E b) (hl : fl.length = E.length) (u : Int) : balAt E (rPut m fl b) u E.length = balAt E fl u E.length + m * (ind (srcB E b = u) - ind (dstB E b = u)) := by
  have hi := idxB_lt hb
  rw [rPut_eq, balAt_set E fl u (idx b) (by omega), if_pos hi]
  have e : ∀ x y : Int, x + y - x = y := by intros; omega
  rw [e]
  unfold srcB dstB idx
  rcases hb with hb | hb
  · simp only [if_pos hb.1, Int.mul_comm]
  · simp only [if_neg (show ¬ 0 ≤ b by omega)]
    rw [Int.mul_comm, Int.neg_mul, ← Int.mul_neg, Int.neg_sub]
theorem TrB.rest {E : List Edg} {rank : Int → Nat} {s : Int} (m : Int) {a : Int} : ∀ {fl l : List Int} {v : Int}, TrB E fl rank s l v → (∀ b ∈ l, idx b ≠ idx a) → TrB E (rPut m fl a) rank s l v
  | _, [], _, h, _ => h
  | fl, b :: l, v, h, hn => by
    obtain ⟨h1, h2, h3, h4, h5⟩ := h
    exact ⟨h1, h2, h3, by rw [rPut_room m fl (hn b (List.mem_cons_self ..))]; exact h4, h5.rest m fun c hc => hn c (List.mem_cons_of_mem _ hc)⟩
/-- Along the way the capacities are kept, and the balances telescope. -/
theorem aug_main {E : List Edg} {rank : Int → Nat} {s : Int} {m : Int} (hm : 0 ≤ m) : ∀ {fl l : List Int} {v : Int}, fl.length = E.length → TrB E fl rank s l v → (∀ b ∈ l, m ≤ room E fl b) → (∀ i, i < E.length → 0 ≤ fl.getD i 0 ∧ fl.getD i 0 ≤ (eAt E i).cap) →
    (rAug m fl l).length = E.length ∧ (∀ i, i < E.length → 0 ≤ (rAug m fl l).getD i 0 ∧ (rAug m fl l).getD i 0 ≤ (eAt E i).cap) ∧ ∀ u, balAt E (rAug m fl l) u E.length = balAt E fl u E.length + m * (ind (s = u) - ind (v = u))
  | fl, [], v, hl, h, _, hc => by
    have : v = s := h
    subst this
    exact ⟨hl, hc, fun u => by simp [rAug]⟩
  | fl, b :: l, v, hl, h, hr, hc => by
    have hnew := h.head_new
    obtain ⟨h1, h2, h3, h4, h5⟩ := h
    have hi := idxB_lt h1
    have hrb := hr b (List.mem_cons_self ..)
    rw [room_eq] at hrb
    have hc' : ∀ i, i < E.length → 0 ≤ (rPut m fl b).getD i 0 ∧ (rPut m fl b).getD i 0 ≤ (eAt E i).cap := fun i hiE => by
      rw [rPut_eq]
      by_cases he : idx b = i
      · subst he
        rw [Go.AM.getD_set_eq (by omega)]
        have := hc _ hiE
        split <;> rename_i hb0
        · rw [if_pos hb0] at hrb; omega
        · rw [if_neg hb0] at hrb; omega
      · rw [Go.AM.getD_set_ne he]; exact hc i hiE
    obtain ⟨k1, k2, k3⟩ := aug_main hm (fl := rPut m fl b) (l := l) (v := srcB E b) (by rw [rPut_len]; exact hl) (h5.rest m hnew) (fun c hcm => by rw [rPut_room m fl (hnew c hcm)]; exact hr c (List.mem_cons_of_mem _ hcm)) hc'
    refine ⟨k1, k2, fun u => ?_⟩
    show balAt E (rAug m (rPut m fl b) l) u E.length = _
    rw [k3, rPut_bal m h1 hl, h2]
    have : m * (ind (srcB E b = u) - ind (v = u)) + m * (ind (s = u) - ind (srcB E b = u)) = m * (ind (s = u) - ind (v = u)) := by
      rw [← Int.mul_add]; congr 1; omega
    omega
theorem aug_flow {n : Net} {s t : Int} {fl tr : List Int} {rank : Int → Nat} {m : Int} (hm : 0 ≤ m) (hst : s ≠ t) (h : IsFlow n s t fl) (ht : TrB n.E fl rank s tr t) (hr : ∀ b ∈ tr, m ≤ room n.E fl b) :
    IsFlow n s t (rAug m fl tr) ∧ bal n (rAug m fl tr) s = bal n fl s + m := by
  obtain ⟨k1, k2, k3⟩ := aug_main hm h.len ht hr h.caps
  refine ⟨⟨k1, k2, fun u h0 h1 hs ht => ?_⟩, ?_⟩
  · show balAt _ _ _ _ = 0
    rw [k3]
    have := h.cons u h0 h1 hs ht
    rw [show balAt n.E fl u n.E.length = 0 from this]
    simp [ind, Ne.symm hs, Ne.symm ht]
  · show balAt _ _ _ _ = _
    rw [k3]
    simp [ind, Ne.symm hst]
theorem mn_le (a b : Int) : mn a b ≤ a ∧ mn a b ≤ b := by unfold mn; split <;> omega
theorem rMost_fold {E : List Edg} {fl : List Int} : ∀ (tr : List Int) (a : Int), 0 < a → (∀ b ∈ tr, 0 < room E fl b) → 0 < tr.foldl (fun m b => mn m (room E fl b)) a ∧ tr.foldl (fun m b => mn m (room E fl b)) a ≤ a ∧ ∀ b ∈ tr, tr.foldl (fun m b => mn m (room E fl b)) a ≤ room E fl b
  | [], a, ha, _ => ⟨ha, Int.le_refl _, fun b hb => by cases hb⟩
  | c :: tr, a, ha, h => by
    have hc := h c (List.mem_cons_self ..)
    have h1 : 0 < mn a (room E fl c) := by unfold mn; split <;> omega
    obtain ⟨k1, k2, k3⟩ := rMost_fold tr (mn a (room E fl c)) h1 fun b hb => h b (List.mem_cons_of_mem _ hb)
    have h2 := mn_le a (room E fl c)
    refine ⟨k1, Int.le_trans k2 h2.1, fun b hb => ?_⟩
    rcases List.mem_cons.1 hb with rfl | hb
    · exact Int.le_trans k2 h2.2
    · exact k3 b hb
theorem nodup_bound : ∀ (N : Nat) (l : List Int), l.Nodup → (∀ u ∈ l, 0 ≤ u ∧ u < N) → l.length ≤ N
  | 0, l, _, h => by
    cases l with
    | nil => simp
    | cons a l => have := h a (List.mem_cons_self ..); omega
  | N + 1, l, hn, h => by
    have ih := nodup_bound N (l.erase (N : Int)) (hn.erase _) fun u hu => by
      have h1 := (List.Nodup.mem_erase_iff hn).1 hu
      have := h u h1.2
      have := h1.1
      omega
    have : l.length ≤ (l.erase (N : Int)).length + 1 := by
      rw [List.length_erase]; split <;> omega
    omega
end Go.AM
/- The reference's search reaches what can be reached. -/
namespace Go.AM
def ClosedE (E : List Edg) (fl : List Int) (seen : List Bool) (v : Int) (e : Nat) : Prop :=
  ((eAt E e).fr = v → fl.getD e 0 < (eAt E e).cap → seen.getD (eAt E e).to.toNat false = true) ∧ ((eAt E e).to = v → 0 < fl.getD e 0 → seen.getD (eAt E e).fr.toNat false = true)
/-- The state of the search: Q is all that was ever queued, its first i members are done. -/
structure RI (E : List Edg) (fl : List Int) (s : Int) (N : Nat) (Q : List Int) (i : Nat) (st : RSt) : Prop where
  l1 : st.1.length = N
  l2 : st.2.1.length = N
  nd : Q.Nodup
  rng : ∀ u ∈ Q, 0 ≤ u ∧ u < N
  seen : ∀ u : Int, 0 ≤ u → u < N → (st.1.getD u.toNat false = true ↔ u ∈ Q)
  hd : Q[0]? = some s
  tr : ∀ (j : Nat) u, Q[j + 1]? = some u → okB E (st.2.1.getD u.toNat 0) ∧ dstB E (st.2.1.getD u.toNat 0) = u ∧ 0 < room E fl (st.2.1.getD u.toNat 0) ∧ ∃ i' : Nat, i' < j + 1 ∧ Q[i']? = some (srcB E (st.2.1.getD u.toNat 0))
  td : st.2.2 = Q.drop i
  cl : ∀ (i' : Nat) v, i' < i → Q[i']? = some v → ∀ e, e < E.length → ClosedE E fl st.1 v e
  byr : ∀ b ∈ st.2.1, b < E.length ∧ -2 - b < E.length

theorem getD_set_true {l : List Bool} {k i : Nat} (h : l.getD i false = true) : (l.set k true).getD i false = true := by
  by_cases hk : k = i
  · subst hk
    by_cases h2 : k < l.length
    · rw [Go.AM.getD_set_eq h2]
    · rw [List.set_eq_of_length_le (by omega)]; exact h
  · rw [Go.AM.getD_set_ne hk]; exact h
theorem ClosedE.mono {E : List Edg} {fl : List Int} {seen : List Bool} {v : Int} {e : Nat} (h : ClosedE E fl seen v e) (k : Nat) : ClosedE E fl (seen.set k true) v e :=
  ⟨fun h1 h2 => getD_set_true (h.1 h1 h2), fun h1 h2 => getD_set_true (h.2 h1 h2)⟩

/-- A node is queued. -/
theorem RI.push {E : List Edg} {fl : List Int} {s : Int} {N : Nat} {Q : List Int} {i : Nat} {st : RSt} (h : RI E fl s N Q i st) {w b v : Int} (hw0 : 0 ≤ w) (hw1 : w < N) (hs : st.1.getD w.toNat false = false) (hi : i ≤ Q.length)
    (hb : okB E b) (hd : dstB E b = w) (hr : 0 < room E fl b) {i0 : Nat} (hv : Q[i0]? = some (srcB E b)) (hbr : b < E.length ∧ -2 - b < E.length) :
    RI E fl s N (Q ++ [w]) i (st.1.set w.toNat true, st.2.1.set w.toNat b, st.2.2 ++ [w]) := by
  have hnw : w ∉ Q := fun hm => by have := (h.seen w hw0 hw1).2 hm; rw [hs] at this; cases this
  have hne : ∀ u : Int, 0 ≤ u → u ≠ w → w.toNat ≠ u.toNat := fun u h0 h1 => by omega
  have hold : ∀ (j : Nat) u, Q[j]? = some u → (Q ++ [w])[j]? = some u := fun j u hj => by
    rw [List.getElem?_append_left (List.getElem?_eq_some_iff.1 hj).1]; exact hj
  have hi0 : i0 < Q.length := (List.getElem?_eq_some_iff.1 hv).1
  refine ⟨by simp [h.l1], by simp [h.l2], ?_, ?_, ?_, ?_, ?_, ?_, ?_, ?_⟩
  · rw [List.nodup_append]
    exact ⟨h.nd, by simp, fun a ha b hb => by simp at hb; subst hb; exact fun e => hnw (e ▸ ha)⟩
  · intro u hu
    rcases List.mem_append.1 hu with hu | hu
    · exact h.rng u hu
    · simp at hu; subst hu; exact ⟨hw0, hw1⟩
  · intro u h0 h1
    by_cases hu : u = w
    · subst hu
      simp only
      rw [Go.AM.getD_set_eq (by rw [h.l1]; omega)]
      simp
    · simp only
      rw [Go.AM.getD_set_ne (hne u h0 hu), h.seen u h0 h1]
      simp [hu]
  · exact hold _ _ h.hd
  · intro j u hj
    simp only
    by_cases hu : u = w
    · subst hu
      rw [Go.AM.getD_set_eq (by rw [h.l2]; omega)]
      refine ⟨hb, hd, hr, i0, ?_, hold _ _ hv⟩
      have : (Q ++ [u])[j + 1]? = some u := hj
      by_cases hlt : j + 1 < Q.length
      · rw [List.getElem?_append_left hlt] at this
        exact absurd (List.mem_of_getElem? this) hnw
      · omega
    · have hj' : Q[j + 1]? = some u := by
        by_cases hlt : j + 1 < Q.length
        · rw [List.getElem?_append_left hlt] at hj; exact hj
        · rw [List.getElem?_append_right (by omega)] at hj
          have := List.mem_of_getElem? hj
          simp at this
          exact absurd this hu
      have hu0 := h.rng u (List.mem_of_getElem? hj')
      rw [Go.AM.getD_set_ne (hne u hu0.1 hu)]
      obtain ⟨k1, k2, k3, i', k4, k5⟩ := h.tr j u hj'
      exact ⟨k1, k2, k3, i', k4, hold _ _ k5⟩
  · simp only
    rw [h.td, List.drop_append_of_le_length hi]
  · intro i' v' hi' hv' e he
    have hv'' : Q[i']? = some v' := by
      rw [List.getElem?_append_left (by omega)] at hv'; exact hv'
    exact (h.cl i' v' hi' hv'' e he).mono _
  · intro c hc
    rcases List.mem_or_eq_of_mem_set hc with hc | rfl
    · exact h.byr c hc
    · exact hbr

structure RJ (E : List Edg) (fl : List Int) (s : Int) (N : Nat) (Q : List Int) (i : Nat) (v : Int) (j : Nat) (st : RSt) : Prop where
  seen0 : Q[i]? = some v
  closed : ∀ e, e < j → ClosedE E fl st.1 v e
  /-- All but the last one's closure. -/
  base : ∀ P : RSt → Prop, (∀ X : RSt, RI E fl s N Q i (X.1, X.2.1, Q.drop i) → X.2.2 = Q.drop (i + 1) → P X) → P st
theorem RJ.mk' {E : List Edg} {fl : List Int} {s : Int} {N : Nat} {Q : List Int} {i : Nat} {v : Int} {j : Nat} {st : RSt} (h0 : Q[i]? = some v) (h1 : ∀ e, e < j → ClosedE E fl st.1 v e) (h2 : RI E fl s N Q i (st.1, st.2.1, Q.drop i)) (h3 : st.2.2 = Q.drop (i + 1)) : RJ E fl s N Q i v j st :=
  ⟨h0, h1, fun _ h => h st h2 h3⟩
theorem RJ.ri {E : List Edg} {fl : List Int} {s : Int} {N : Nat} {Q : List Int} {i : Nat} {v : Int} {j : Nat} {st : RSt} (h : RJ E fl s N Q i v j st) : RI E fl s N Q i (st.1, st.2.1, Q.drop i) ∧ st.2.2 = Q.drop (i + 1) :=
  h.base (fun st => RI E fl s N Q i (st.1, st.2.1, Q.drop i) ∧ st.2.2 = Q.drop (i + 1)) fun _ h1 h2 => ⟨h1, h2⟩

theorem RJ.edge {E : List Edg} {fl : List Int} {s : Int} {N : Nat} (hE : ∀ i, i < E.length → 0 ≤ (eAt E i).fr ∧ (eAt E i).fr < N ∧ 0 ≤ (eAt E i).to ∧ (eAt E i).to < N) {Q : List Int} {i : Nat} {v : Int} {j : Nat} {st : RSt} (hj : j < E.length) (h : RJ E fl s N Q i v j st) :
    ∃ Q', RJ E fl s N Q' i v (j + 1) (rB E fl v j (rA E fl v j st)) := by
  have hEj := hE j hj
  -- the first half
  have hA : ∃ Q1, RJ E fl s N Q1 i v j (rA E fl v j st) ∧ ((eAt E j).fr = v → fl.getD j 0 < (eAt E j).cap → (rA E fl v j st).1.getD (eAt E j).to.toNat false = true) := by
    obtain ⟨h2, h3⟩ := h.ri
    have hil : i < Q.length := (List.getElem?_eq_some_iff.1 h.seen0).1
    by_cases hc : (eAt E j).fr = v ∧ fl.getD j 0 < (eAt E j).cap ∧ st.1.getD (eAt E j).to.toNat false = false
    · have e : rA E fl v j st = (st.1.set (eAt E j).to.toNat true, st.2.1.set (eAt E j).to.toNat j, st.2.2 ++ [(eAt E j).to]) := by unfold rA; rw [if_pos hc]
      have hp := h2.push (w := (eAt E j).to) (b := (j : Int)) (v := v) hEj.2.2.1 hEj.2.2.2 hc.2.2 (by omega) (.inl ⟨by omega, by omega⟩) (by simp [dstB]) (by simp [room]; have := hc.2.1; rw [List.getD_eq_getElem?_getD] at this; omega) (i0 := i) (by simp [srcB, hc.1]; exact h.seen0) ⟨by omega, by omega⟩
      refine ⟨Q ++ [(eAt E j).to], ?_, fun _ _ => ?_⟩
      · rw [e]
        refine RJ.mk' (by rw [List.getElem?_append_left hil]; exact h.seen0) (fun e he => (h.closed e he).mono _) ?_ ?_
        · rw [List.drop_append_of_le_length (by omega)]; exact hp
        · simp only; rw [h3, List.drop_append_of_le_length (by omega)]
      · rw [e]; simp only; rw [Go.AM.getD_set_eq (by have := h2.l1; simp at this; omega)]
    · have e : rA E fl v j st = st := by unfold rA; rw [if_neg hc]
      rw [e]
      refine ⟨Q, h, fun h1 h2 => ?_⟩
      cases hs : st.1.getD (eAt E j).to.toNat false with
      | true => rfl
      | false => exact absurd ⟨h1, h2, hs⟩ hc
  obtain ⟨Q1, hJ, hAc⟩ := hA
  generalize rA E fl v j st = st1 at hJ hAc
  obtain ⟨h2, h3⟩ := hJ.ri
  have hil : i < Q1.length := (List.getElem?_eq_some_iff.1 hJ.seen0).1
  by_cases hc : (eAt E j).to = v ∧ 0 < fl.getD j 0 ∧ st1.1.getD (eAt E j).fr.toNat false = false
  · have e : rB E fl v j st1 = (st1.1.set (eAt E j).fr.toNat true, st1.2.1.set (eAt E j).fr.toNat (-2 - (j : Int)), st1.2.2 ++ [(eAt E j).fr]) := by unfold rB; rw [if_pos hc]
    have hidx : (-2 - (-2 - (j : Int))).toNat = j := by omega
    have hp := h2.push (w := (eAt E j).fr) (b := -2 - (j : Int)) (v := v) hEj.1 hEj.2.1 hc.2.2 (by omega) (.inr ⟨by omega, by omega⟩) (by unfold dstB; rw [if_neg (by omega), hidx]) (by unfold room; rw [if_neg (by omega), hidx]; exact hc.2.1) (i0 := i) (by unfold srcB; rw [if_neg (by omega), hidx, hc.1]; exact hJ.seen0) ⟨by omega, by omega⟩
    refine ⟨Q1 ++ [(eAt E j).fr], ?_⟩
    rw [e]
    refine RJ.mk' (by rw [List.getElem?_append_left hil]; exact hJ.seen0) (fun e he => ?_) ?_ ?_
    · rcases Nat.lt_or_ge e j with he' | he'
      · exact (hJ.closed e he').mono _
      · obtain rfl : e = j := by omega
        refine ⟨fun a b => getD_set_true (hAc a b), fun _ _ => ?_⟩
        simp only; rw [Go.AM.getD_set_eq (by have := h2.l1; simp at this; omega)]
    · rw [List.drop_append_of_le_length (by omega)]; exact hp
    · simp only; rw [h3, List.drop_append_of_le_length (by omega)]
  · have e0 : rB E fl v j st1 = st1 := by unfold rB; rw [if_neg hc]
    rw [e0]
    clear e0
    refine ⟨Q1, RJ.mk' hJ.seen0 (fun e he => ?_) h2 h3⟩
    rcases Nat.lt_or_ge e j with he' | he'
    · exact hJ.closed e he'
    · obtain rfl : e = j := by omega
      refine ⟨hAc, fun a b => ?_⟩
      cases hs : st1.1.getD (eAt E e).fr.toNat false with
      | true => rfl
      | false => exact absurd ⟨a, b, hs⟩ hc
theorem RJ.scan {E : List Edg} {fl : List Int} {s : Int} {N : Nat} (hE : ∀ i, i < E.length → 0 ≤ (eAt E i).fr ∧ (eAt E i).fr < N ∧ 0 ≤ (eAt E i).to ∧ (eAt E i).to < N) {Q : List Int} {i : Nat} {v : Int} {st : RSt} (h : RJ E fl s N Q i v 0 st) : ∀ j, j ≤ E.length → ∃ Q', RJ E fl s N Q' i v j (rScan E fl v j st)
  | 0, _ => ⟨Q, h⟩
  | j + 1, hj => by
    obtain ⟨Q1, h1⟩ := RJ.scan hE h j (by omega)
    exact h1.edge hE (by omega)
/-- The search comes to its end. -/
theorem rbfs_end {E : List Edg} {fl : List Int} {s : Int} {N : Nat} (hE : ∀ i, i < E.length → 0 ≤ (eAt E i).fr ∧ (eAt E i).fr < N ∧ 0 ≤ (eAt E i).to ∧ (eAt E i).to < N) : ∀ (f : Nat) (Q : List Int) (i : Nat) (st : RSt), i ≤ Q.length → N < f + i → RI E fl s N Q i st →
    ∃ r Q', rbfs E fl f st = some r ∧ RI E fl s N Q' Q'.length (r.1, r.2, [])
  | 0, Q, i, st, hi, hf, h => by
    have := nodup_bound N Q h.nd h.rng
    omega
  | f + 1, Q, i, st, hi, hf, h => by
    unfold rbfs
    rcases Nat.lt_or_ge i Q.length with hlt | hge
    · have hd := List.drop_eq_getElem_cons hlt
      rw [h.td, hd]
      simp only
      have hJ : RJ E fl s N Q i Q[i] 0 (st.1, st.2.1, Q.drop (i + 1)) := RJ.mk' (List.getElem?_eq_getElem hlt) (by intro e he; omega) ⟨h.l1, h.l2, h.nd, h.rng, h.seen, h.hd, h.tr, rfl, h.cl, h.byr⟩ rfl
      obtain ⟨Q1, h1⟩ := hJ.scan hE E.length (Nat.le_refl _)
      obtain ⟨k1, k2⟩ := h1.ri
      have hil : i < Q1.length := (List.getElem?_eq_some_iff.1 h1.seen0).1
      refine rbfs_end hE f Q1 (i + 1) _ (by omega) (by omega) ⟨k1.l1, k1.l2, k1.nd, k1.rng, k1.seen, k1.hd, k1.tr, k2, fun i' v' hi' hv' e he => ?_, k1.byr⟩
      rcases Nat.lt_or_ge i' i with h3 | h3
      · exact k1.cl i' v' h3 hv' e he
      · obtain rfl : i' = i := by omega
        have : v' = Q[i'] := Option.some.inj (hv'.symm.trans h1.seen0)
        subst this
        exact h1.closed e he
    · have : st.2.2 = [] := by rw [h.td]; exact List.drop_of_length_le hge
      rw [this]
      simp only
      have hiq : i = Q.length := by omega
      subst hiq
      exact ⟨_, Q, rfl, ⟨h.l1, h.l2, h.nd, h.rng, h.seen, h.hd, h.tr, by simp, h.cl, h.byr⟩⟩
theorem RI.start {E : List Edg} {fl : List Int} {s : Int} {N : Nat} (h0 : 0 ≤ s) (h1 : s < N) : RI E fl s N [s] 0 (r0 N s) := by
  refine ⟨by simp [r0], by simp [r0], by simp, fun u hu => by simp at hu; omega, fun u hu0 hu1 => ?_, rfl, fun j u hj => by simp at hj, by simp [r0], fun i' v hi' => by omega, fun b hb => ?_⟩
  · simp only [r0]
    by_cases hu : u = s
    · subst hu
      rw [Go.AM.getD_set_eq (by simp; omega)]; simp
    · rw [Go.AM.getD_set_ne (by omega), List.getD_eq_getElem?_getD, List.getElem?_eq_getElem (by simp; omega)]
      simp [hu]
  · simp [r0] at hb; omega
end Go.AM
/- The reference's maximal flow. -/
namespace Go.AM
theorem idxOf_of {Q : List Int} (hn : Q.Nodup) {i : Nat} {a : Int} (h : Q[i]? = some a) : Q.idxOf a = i := by
  obtain ⟨hi, rfl⟩ := List.getElem?_eq_some_iff.1 h
  exact List.Nodup.idxOf_getElem hn i hi
theorem mem_idx {Q : List Int} {u s : Int} (h : u ∈ Q) (hd : Q[0]? = some s) (hu : u ≠ s) : ∃ j : Nat, Q[j + 1]? = some u := by
  obtain ⟨i, hi, rfl⟩ := List.mem_iff_getElem.1 h
  cases i with
  | zero => rw [List.getElem?_eq_getElem hi] at hd; exact absurd (Option.some.inj hd) hu
  | succ j => exact ⟨j, List.getElem?_eq_getElem hi⟩

section
variable {n : Net} {s t : Int} {fl : List Int} {Q : List Int} {r : List Bool × List Int}
theorem rReach_ri (hv : validB n = true) (h0 : 0 ≤ s) (h1 : s < n.N) (h : rReach n s fl = some r) : ∃ Q, RI n.E fl s n.N.toNat Q Q.length (r.1, r.2, []) := by
  obtain ⟨r', Q, k1, k2⟩ := rbfs_end (fl := fl) (edges_in hv) (n.N.toNat + 1) [s] 0 (r0 n.N.toNat s) (by simp) (by omega) (RI.start h0 (by omega))
  unfold rReach at h
  rw [k1] at h
  obtain rfl := Option.some.inj h
  exact ⟨Q, k2⟩
theorem rReach_some (hv : validB n = true) (h0 : 0 ≤ s) (h1 : s < n.N) (fl : List Int) : ∃ r, rReach n s fl = some r := by
  obtain ⟨r', Q, k1, k2⟩ := rbfs_end (fl := fl) (edges_in hv) (n.N.toNat + 1) [s] 0 (r0 n.N.toNat s) (by simp) (by omega) (RI.start h0 (by omega))
  exact ⟨r', k1⟩
theorem trace_tr {E : List Edg} {N : Nat} (h : RI E fl s N Q Q.length (r.1, r.2, [])) : ∀ (f : Nat) (u : Int) (tr : List Int), u ∈ Q → rTrace E r.2 s f u = some tr → TrB E fl (fun a => Q.idxOf a) s tr u
  | 0, u, tr, _, ht => by cases ht
  | f + 1, u, tr, hu, ht => by
    by_cases hus : u = s
    · subst hus; rw [rTrace_stop ht]; rfl
    · obtain ⟨j, hj⟩ := mem_idx hu h.hd hus
      obtain ⟨k1, k2, k3, i', k4, k5⟩ := h.tr j u hj
      obtain ⟨f', l, e1, rfl, e2⟩ := rTrace_step ht hus
      have : f' = f := by omega
      subst this
      refine ⟨k1, k2, ?_, k3, ?_⟩
      · show Q.idxOf _ < Q.idxOf _
        rw [idxOf_of h.nd k5, idxOf_of h.nd hj]; exact k4
      · refine trace_tr h f' _ _ (List.mem_of_getElem? k5) ?_
        simp only at k5 ⊢
        unfold srcB
        rcases e2 with ⟨hb, e2⟩ | ⟨hb, e2⟩
        · rw [if_pos hb]; exact e2
        · rw [if_neg (by omega)]; exact e2
theorem trace_some {E : List Edg} {N : Nat} (h : RI E fl s N Q Q.length (r.1, r.2, [])) : ∀ (f j : Nat) (u : Int), Q[j]? = some u → j < f → ∃ tr, rTrace E r.2 s f u = some tr
  | 0, j, u, _, hf => by omega
  | f + 1, j, u, hu, hf => by
    unfold rTrace
    by_cases hus : u = s
    · exact ⟨[], by rw [if_pos hus]⟩
    · rw [if_neg hus]
      cases j with
      | zero => rw [h.hd] at hu; exact absurd (Option.some.inj hu).symm hus
      | succ j =>
        obtain ⟨k1, k2, k3, i', k4, k5⟩ := h.tr j u hu
        obtain ⟨tr, ht⟩ := trace_some h f i' _ k5 (by omega)
        simp only at ht k1
        unfold srcB at ht
        rcases k1 with hb | hb
        · rw [if_pos hb.1] at ht ⊢; rw [ht]; exact ⟨_, rfl⟩
        · rw [if_neg (by omega)] at ht ⊢; rw [if_pos hb.1, ht]; exact ⟨_, rfl⟩
end
theorem flow_bnd {n : Net} {s t : Int} {fl : List Int} (hv : validB n = true) (h : IsFlow n s t fl) (i : Nat) : 0 ≤ fl.getD i 0 ∧ fl.getD i 0 ≤ 1125899906842624 := by
  by_cases hi : i < n.E.length
  · have := h.caps i hi
    have := valid_edge hv (eAt_get hi)
    omega
  · rw [getD_out (by rw [h.len]; omega)]; omega
theorem bal_lim {n : Net} {s t : Int} {fl : List Int} (hv : validB n = true) (h : IsFlow n s t fl) (u : Int) : -4611686018427387904 ≤ bal n fl u ∧ bal n fl u ≤ 4611686018427387904 := by
  obtain ⟨_, _, hE⟩ := valid_size hv
  have := bal_bnd (E := n.E) (v := u) (by decide : (0 : Int) ≤ 1125899906842624) (fun i => by have := flow_bnd hv h i; omega : ∀ i, -1125899906842624 ≤ fl.getD i 0 ∧ fl.getD i 0 ≤ 1125899906842624) n.E.length
  have h2 : (n.E.length : Int) ≤ 2000 := by omega
  show _ ≤ balAt _ _ _ _ ∧ balAt _ _ _ _ ≤ _
  omega
theorem zero_flow {n : Net} {s t : Int} (hv : validB n = true) : IsFlow n s t (List.replicate n.E.length 0) := by
  have hz : ∀ i, (List.replicate n.E.length (0 : Int)).getD i 0 = 0 := fun i => by
    rw [List.getD_eq_getElem?_getD, List.getElem?_replicate]; split <;> rfl
  refine ⟨by simp, fun i hi => ?_, fun u _ _ _ _ => ?_⟩
  · rw [hz]; have := valid_edge hv (eAt_get hi); omega
  · have : ∀ j, balAt n.E (List.replicate n.E.length 0) u j = 0 := fun j => by
      induction j with
      | zero => rfl
      | succ j ih => rw [balAt, balStep_eq, ih, hz]; simp
    exact this _
theorem ref_ok {n : Net} {s t : Int} (hv : validB n = true) (hst : endsB n s t = true) : RefOk n s t (IsFlow n s t) := by
  have he : 0 ≤ s ∧ s < n.N ∧ 0 ≤ t ∧ t < n.N ∧ s ≠ t := by simp [endsB] at hst; omega
  refine ⟨fun fl h => ⟨h.len, flow_bnd hv h⟩, fun fl r h hr => ?_, fun fl r tr h hr ht htr => ?_⟩
  · obtain ⟨Q, k⟩ := rReach_ri hv he.1 he.2.1 hr
    exact ⟨k.l1, k.l2, k.byr⟩
  · obtain ⟨Q, k⟩ := rReach_ri hv he.1 he.2.1 hr
    have htQ := (k.seen t he.2.2.1 (by omega)).1 ht
    have hT := trace_tr k _ _ _ htQ htr
    have hroom := fun b hb => (hT.rank_le b hb).2.2.2
    obtain ⟨m1, m2, m3⟩ := rMost_fold (E := n.E) (fl := fl) tr 1125899906842624 (by decide) hroom
    refine ⟨by show 0 ≤ List.foldl _ _ _; omega, m2, ?_⟩
    exact (aug_flow (by show 0 ≤ List.foldl _ _ _; omega) he.2.2.2.2 h hT m3).1
/-- The reference's result: a flow of the greatest value. -/
theorem ref_total {n : Net} {s t : Int} (hv : validB n = true) (hst : endsB n s t = true) : ∀ (k : Nat) (fl : List Int), IsFlow n s t fl → 4611686018427387904 - bal n fl s < k → ∃ F r, rMaxP n s t F fl = some r ∧ IsFlow n s t r ∧ ∃ q, rReach n s r = some q ∧ q.1.getD t.toNat false = false := by
  have he : 0 ≤ s ∧ s < n.N ∧ 0 ≤ t ∧ t < n.N ∧ s ≠ t := by simp [endsB] at hst; omega
  intro k
  induction k with
  | zero => intro fl h hk; have := bal_lim hv h s; omega
  | succ k ih =>
    intro fl h hk
    obtain ⟨q, hq⟩ := rReach_some hv he.1 he.2.1 fl
    obtain ⟨Q, kk⟩ := rReach_ri hv he.1 he.2.1 hq
    cases hb : q.1.getD t.toNat false with
    | false => exact ⟨1, fl, by unfold rMaxP; rw [hq]; simp only; rw [if_pos hb], h, q, hq, hb⟩
    | true =>
      have htQ := (kk.seen t he.2.2.1 (by omega)).1 hb
      obtain ⟨j, hj, hjt⟩ := List.mem_iff_getElem.1 htQ
      have hlen := nodup_bound _ _ kk.nd kk.rng
      obtain ⟨tr, htr⟩ := trace_some kk (n.N.toNat + 1) j t (by rw [List.getElem?_eq_getElem hj, hjt]) (by omega)
      have hT := trace_tr kk _ _ _ htQ htr
      have hroom := fun b hb => (hT.rank_le b hb).2.2.2
      obtain ⟨m1, m2, m3⟩ := rMost_fold (E := n.E) (fl := fl) tr 1125899906842624 (by decide) hroom
      obtain ⟨a1, a2⟩ := aug_flow (m := rMost n.E fl tr) (by show 0 ≤ List.foldl _ _ _; omega) he.2.2.2.2 h hT m3
      have m1' : 0 < rMost n.E fl tr := m1
      obtain ⟨F, r, e1, e2⟩ := ih _ a1 (by omega)
      exact ⟨F + 1, r, by unfold rMaxP; rw [hq]; simp only; rw [if_neg (by rw [hb]; simp), htr]; exact e1, e2⟩
theorem ref_best {n : Net} {s t : Int} (hv : validB n = true) (hst : endsB n s t = true) {r : List Int} (h : IsFlow n s t r) {q : List Bool × List Int} (hq : rReach n s r = some q) (hb : q.1.getD t.toNat false = false) (g : List Int) (hg : IsFlow n s t g) : bal n g s ≤ bal n r s := by
  have he : 0 ≤ s ∧ s < n.N ∧ 0 ≤ t ∧ t < n.N ∧ s ≠ t := by simp [endsB] at hst; omega
  obtain ⟨Q, k⟩ := rReach_ri hv he.1 he.2.1 hq
  have hsQ : s ∈ Q := List.mem_of_getElem? k.hd
  refine value_le hv he.1 he.2.1 h hg (S := fun u => q.1.getD u.toNat false) ((k.seen s he.1 (by omega)).2 hsQ) hb fun i hi => ?_
  have hin := edges_in hv i hi
  have hc := h.caps i hi
  refine ⟨fun h1 h2 => ?_, fun h1 h2 => ?_⟩
  · have hm := (k.seen _ hin.1 hin.2.1).1 h1
    obtain ⟨j, hj, hje⟩ := List.mem_iff_getElem.1 hm
    have := (k.cl j _ hj (List.getElem?_eq_getElem hj) i hi).1 hje.symm
    rcases Int.lt_or_le (r.getD i 0) (eAt n.E i).cap with h3 | h3
    · have h4 := this h3; simp only at h4 h2; rw [h4] at h2; cases h2
    · omega
  · have hm := (k.seen _ hin.2.2.1 hin.2.2.2).1 h2
    obtain ⟨j, hj, hje⟩ := List.mem_iff_getElem.1 hm
    have := (k.cl j _ hj (List.getElem?_eq_getElem hj) i hi).2 hje.symm
    rcases Int.lt_or_le 0 (r.getD i 0) with h3 | h3
    · have h4 := this h3; simp only at h4 h1; rw [h4] at h1; cases h1
    · omega
end Go.AM
/- The program's search in the residual network. -/
namespace Go.AM
structure PI (A : List Arc) (leave : List (List Int)) (src : Int → Int) (s : Int) (N : Nat) (i : Nat) (st : List Int × List Int) : Prop where
  l1 : st.1.length = N
  nd : st.2.Nodup
  rng : ∀ u ∈ st.2, 0 ≤ u ∧ u < N
  seen : ∀ u : Int, 0 ≤ u → u < N → (st.1.getD u.toNat 0 ≠ -1 ↔ u ∈ st.2)
  hd : st.2[0]? = some s
  hs : st.1.getD s.toNat 0 = -2
  tr : ∀ (j : Nat) u, st.2[j + 1]? = some u → 0 ≤ st.1.getD u.toNat 0 ∧ st.1.getD u.toNat 0 < A.length ∧ aTo A (st.1.getD u.toNat 0) = u ∧ 0 < aLeft A (st.1.getD u.toNat 0) ∧ ∃ i' : Nat, i' < j + 1 ∧ st.2[i']? = some (src (st.1.getD u.toNat 0))
  cl : ∀ (i' : Nat) v, i' < i → st.2[i']? = some v → ∀ k ∈ leave.getD v.toNat [], 0 < aLeft A k → st.1.getD (aTo A k).toNat 0 ≠ -1
  vals : ∀ b ∈ st.1, b < A.length

structure LvOk (A : List Arc) (leave : List (List Int)) (src : Int → Int) (N : Nat) : Prop where
  src_ : ∀ v : Int, 0 ≤ v → v < N → ∀ k ∈ leave.getD v.toNat [], 0 ≤ k ∧ k < A.length ∧ src k = v ∧ 0 ≤ aTo A k ∧ aTo A k < N

theorem set_ne_of {l : List Int} {k i : Nat} {b : Int} (hb : b ≠ -1) (h : l.getD i 0 ≠ -1) : (l.set k b).getD i 0 ≠ -1 := by
  by_cases hk : k = i
  · subst hk
    by_cases h2 : k < l.length
    · rw [Go.AM.getD_set_eq h2]; exact hb
    · rw [List.set_eq_of_length_le (by omega)]; exact h
  · rw [Go.AM.getD_set_ne hk]; exact h

theorem PI.step {A : List Arc} {leave : List (List Int)} {src : Int → Int} {s : Int} {N : Nat} {i : Nat} {st : List Int × List Int} (h : PI A leave src s N i st) {k : Int} (hk0 : 0 ≤ k) (hk1 : k < A.length) (ht0 : 0 ≤ aTo A k) (ht1 : aTo A k < N) {i0 : Nat} (hi0 : st.2[i0]? = some (src k)) (hi : i ≤ st.2.length) :
    PI A leave src s N i (innerStep A st k) ∧ (0 < aLeft A k → (innerStep A st k).1.getD (aTo A k).toNat 0 ≠ -1) ∧ (∀ u, st.1.getD u 0 ≠ -1 → (innerStep A st k).1.getD u 0 ≠ -1) ∧ (∀ (j : Nat) u, st.2[j]? = some u → (innerStep A st k).2[j]? = some u) ∧ st.2.length ≤ (innerStep A st k).2.length := by
  by_cases hc : 0 < aLeft A k ∧ st.1.getD (aTo A k).toNat 0 = -1
  · have e : innerStep A st k = (st.1.set (aTo A k).toNat k, st.2 ++ [aTo A k]) := by unfold innerStep; rw [if_pos hc]
    rw [e]
    generalize hw : aTo A k = w at *
    have hnw : w ∉ st.2 := fun hm => (h.seen w ht0 ht1).2 hm hc.2
    have hne : ∀ u : Int, 0 ≤ u → u ≠ w → w.toNat ≠ u.toNat := fun u h0 h1 => by omega
    have hold : ∀ (j : Nat) u, st.2[j]? = some u → (st.2 ++ [w])[j]? = some u := fun j u hj => by
      rw [List.getElem?_append_left (List.getElem?_eq_some_iff.1 hj).1]; exact hj
    have hws : w ≠ s := fun e => hnw (e ▸ List.mem_of_getElem? h.hd)
    have hsr := h.rng s (List.mem_of_getElem? h.hd)
    have hkm : ∀ u, st.1.getD u 0 ≠ -1 → (st.1.set w.toNat k).getD u 0 ≠ -1 := fun u hu => set_ne_of (by omega) hu
    refine ⟨⟨by simp [h.l1], ?_, ?_, ?_, hold _ _ h.hd, ?_, ?_, ?_, ?_⟩, fun _ => ?_, hkm, hold, by simp⟩
    · rw [List.nodup_append]
      exact ⟨h.nd, by simp, fun a ha b hb => by simp at hb; subst hb; exact fun e => hnw (e ▸ ha)⟩
    · intro u hu
      rcases List.mem_append.1 hu with hu | hu
      · exact h.rng u hu
      · simp at hu; subst hu; exact ⟨ht0, ht1⟩
    · intro u h0 h1
      by_cases hu : u = w
      · subst hu
        simp only
        rw [Go.AM.getD_set_eq (by rw [h.l1]; omega)]
        simp; omega
      · simp only
        rw [Go.AM.getD_set_ne (hne u h0 hu), h.seen u h0 h1]
        simp [hu]
    · simp only
      rw [Go.AM.getD_set_ne (hne s hsr.1 (Ne.symm hws))]; exact h.hs
    · intro j u hj
      simp only
      by_cases hu : u = w
      · subst hu
        rw [Go.AM.getD_set_eq (by rw [h.l1]; omega)]
        refine ⟨hk0, hk1, hw, hc.1, i0, ?_, hold _ _ hi0⟩
        have : (st.2 ++ [u])[j + 1]? = some u := hj
        have hil := (List.getElem?_eq_some_iff.1 hi0).1
        by_cases hlt : j + 1 < st.2.length
        · rw [List.getElem?_append_left hlt] at this
          exact absurd (List.mem_of_getElem? this) hnw
        · omega
      · have hj' : st.2[j + 1]? = some u := by
          by_cases hlt : j + 1 < st.2.length
          · rw [List.getElem?_append_left hlt] at hj; exact hj
          · rw [List.getElem?_append_right (by omega)] at hj
            have := List.mem_of_getElem? hj
            simp at this
            exact absurd this hu
        have hu0 := h.rng u (List.mem_of_getElem? hj')
        rw [Go.AM.getD_set_ne (hne u hu0.1 hu)]
        obtain ⟨k1, k2, k3, k4, i', k5, k6⟩ := h.tr j u hj'
        exact ⟨k1, k2, k3, k4, i', k5, hold _ _ k6⟩
    · intro i' v' hi' hv' c hcm hcl
      have hv'' : st.2[i']? = some v' := by
        rw [List.getElem?_append_left (by omega)] at hv'; exact hv'
      exact hkm _ (h.cl i' v' hi' hv'' c hcm hcl)
    · intro c hcm
      rcases List.mem_or_eq_of_mem_set hcm with hcm | rfl
      · exact h.vals c hcm
      · exact hk1
    · simp only; rw [Go.AM.getD_set_eq (by rw [h.l1]; omega)]; omega
  · have e : innerStep A st k = st := by unfold innerStep; rw [if_neg hc]
    rw [e]
    exact ⟨h, fun h1 h2 => hc ⟨h1, h2⟩, fun _ h => h, fun _ _ h => h, Nat.le_refl _⟩

theorem PI.scan {A : List Arc} {leave : List (List Int)} {src : Int → Int} {s : Int} {N : Nat} {i : Nat} {v : Int} : ∀ (ks : List Int) (st : List Int × List Int), PI A leave src s N i st → (∀ k ∈ ks, 0 ≤ k ∧ k < A.length ∧ src k = v ∧ 0 ≤ aTo A k ∧ aTo A k < N) → st.2[i]? = some v →
    PI A leave src s N i (scanQ A ks st) ∧ (∀ k ∈ ks, 0 < aLeft A k → (scanQ A ks st).1.getD (aTo A k).toNat 0 ≠ -1) ∧ (∀ u, st.1.getD u 0 ≠ -1 → (scanQ A ks st).1.getD u 0 ≠ -1) ∧ (scanQ A ks st).2[i]? = some v ∧ st.2.length ≤ (scanQ A ks st).2.length
  | [], st, h, _, hv => ⟨h, fun k hk => (by cases hk), fun _ h => h, hv, Nat.le_refl _⟩
  | k :: ks, st, h, hks, hv => by
    obtain ⟨h1, h2, h3, h4, h5⟩ := hks k (List.mem_cons_self ..)
    have hil := (List.getElem?_eq_some_iff.1 hv).1
    obtain ⟨p1, p2, p3, p4, p5⟩ := h.step h1 h2 h4 h5 (i0 := i) (by rw [h3]; exact hv) (by omega)
    obtain ⟨q1, q2, q3, q4, q5⟩ := PI.scan ks (innerStep A st k) p1 (fun c hc => hks c (List.mem_cons_of_mem _ hc)) (p4 _ _ hv)
    refine ⟨q1, fun c hc hl => ?_, fun u hu => q3 u (p3 u hu), q4, Nat.le_trans p5 q5⟩
    rcases List.mem_cons.1 hc with rfl | hc
    · exact q3 _ (p2 hl)
    · exact q2 c hc hl

theorem bfs_end {A : List Arc} {leave : List (List Int)} {src : Int → Int} {s : Int} {N : Nat} (hL : LvOk A leave src N) : ∀ (f i : Nat) (st : List Int × List Int), i ≤ st.2.length → N < f + i → PI A leave src s N i st →
    ∃ r q, bfs A leave f i st = some r ∧ PI A leave src s N q.length (r, q)
  | 0, i, st, hi, hf, h => by
    have := nodup_bound N st.2 h.nd h.rng
    omega
  | f + 1, i, st, hi, hf, h => by
    unfold bfs
    rcases Nat.lt_or_ge i st.2.length with hlt | hge
    · rw [if_pos hlt]
      have hv : st.2[i]? = some (st.2.getD i 0) := by rw [List.getD_eq_getElem?_getD, List.getElem?_eq_getElem hlt]; rfl
      generalize st.2.getD i 0 = v at hv
      have hvr := h.rng v (List.mem_of_getElem? hv)
      obtain ⟨q1, q2, q3, q4, q5⟩ := PI.scan (leave.getD v.toNat []) st h (hL.src_ v hvr.1 hvr.2) hv
      have hil := (List.getElem?_eq_some_iff.1 q4).1
      refine bfs_end hL f (i + 1) _ (by omega) (by omega) ⟨q1.l1, q1.nd, q1.rng, q1.seen, q1.hd, q1.hs, q1.tr, fun i' v' hi' hv' => ?_, q1.vals⟩
      rcases Nat.lt_or_ge i' i with h3 | h3
      · exact q1.cl i' v' h3 hv'
      · obtain rfl : i' = i := by omega
        have : v' = v := Option.some.inj (hv'.symm.trans q4)
        subst this
        exact q2
    · rw [if_neg (by omega)]
      have hiq : i = st.2.length := by omega
      subst hiq
      exact ⟨_, st.2, rfl, h⟩
theorem PI.start {A : List Arc} {leave : List (List Int)} {src : Int → Int} {s : Int} {N : Nat} (h0 : 0 ≤ s) (h1 : s < N) : PI A leave src s N 0 (by0 N s) := by
  have hg : ∀ u : Int, 0 ≤ u → u < N → (by0 N s).1.getD u.toNat 0 = if u = s then -2 else -1 := fun u hu0 hu1 => by
    simp only [by0]
    by_cases hu : u = s
    · subst hu; rw [if_pos rfl, Go.AM.getD_set_eq (by simp; omega)]
    · rw [if_neg hu, Go.AM.getD_set_ne (by omega), List.getD_eq_getElem?_getD, List.getElem?_eq_getElem (by simp; omega)]; simp
  refine ⟨by simp [by0], by simp [by0], fun u hu => by simp [by0] at hu; omega, fun u hu0 hu1 => ?_, rfl, ?_, fun j u hj => by simp [by0] at hj, fun i' v hi' => by omega, fun b hb => ?_⟩
  · rw [hg u hu0 hu1]; simp [by0]
  · rw [hg s h0 h1, if_pos rfl]
  · simp only [by0] at hb
    rcases List.mem_or_eq_of_mem_set hb with hb | rfl
    · simp at hb; omega
    · omega
end Go.AM
/- The program's maximal flow. -/
namespace Go.AM
def cd (k : Int) : Int := if k % 2 = 0 then k / 2 else -2 - k / 2
structure Rep (n : Net) (A : List Arc) (fl : List Int) : Prop where
  len : A.length = 2 * n.E.length
  fll : fl.length = n.E.length
  ev : ∀ e, e < n.E.length → A.getD (2 * e) (0, 0) = ((eAt n.E e).to, (eAt n.E e).cap - fl.getD e 0)
  od : ∀ e, e < n.E.length → A.getD (2 * e + 1) (0, 0) = ((eAt n.E e).fr, fl.getD e 0)
section
variable {n : Net} {A : List Arc} {fl : List Int}
theorem cd_facts (h : Rep n A fl) {k : Int} (h0 : 0 ≤ k) (h1 : k < A.length) : okB n.E (cd k) ∧ dstB n.E (cd k) = aTo A k ∧ srcB n.E (cd k) = aTo A (x1 k) ∧ room n.E fl (cd k) = aLeft A k ∧ 0 ≤ x1 k ∧ x1 k < A.length := by
  have hl := h.len
  by_cases hk : k % 2 = 0
  · obtain ⟨e, he⟩ : ∃ e : Nat, k = 2 * e := ⟨(k / 2).toNat, by omega⟩
    have hcd : cd k = e := by unfold cd; rw [if_pos hk]; omega
    have hx : x1 k = 2 * e + 1 := by unfold x1; rw [if_pos hk]; omega
    have he1 : e < n.E.length := by omega
    have hev := h.ev e he1
    have hod := h.od e he1
    have ht : k.toNat = 2 * e := by omega
    have ht2 : (x1 k).toNat = 2 * e + 1 := by omega
    refine ⟨by rw [hcd]; exact .inl ⟨by omega, by omega⟩, ?_, ?_, ?_, by omega, by omega⟩
    · rw [hcd]; unfold dstB aTo; rw [if_pos (by omega), ht, hev]; simp
    · rw [hcd]; unfold srcB aTo; rw [if_pos (by omega), ht2, hod]; simp
    · rw [hcd]; unfold room aLeft; rw [if_pos (by omega), ht, hev]; simp
  · obtain ⟨e, he⟩ : ∃ e : Nat, k = 2 * e + 1 := ⟨(k / 2).toNat, by omega⟩
    have hcd : cd k = -2 - e := by unfold cd; rw [if_neg hk]; omega
    have hx : x1 k = 2 * e := by unfold x1; rw [if_neg hk]; omega
    have he1 : e < n.E.length := by omega
    have hev := h.ev e he1
    have hod := h.od e he1
    have ht : k.toNat = 2 * e + 1 := by omega
    have ht2 : (x1 k).toNat = 2 * e := by omega
    have hi : (-2 - (-2 - (e : Int))).toNat = e := by omega
    refine ⟨by rw [hcd]; exact .inr ⟨by omega, by omega⟩, ?_, ?_, ?_, by omega, by omega⟩
    · rw [hcd]; unfold dstB aTo; rw [if_neg (by omega), ht, hod, hi]
    · rw [hcd]; unfold srcB aTo; rw [if_neg (by omega), ht2, hev, hi]
    · rw [hcd]; unfold room aLeft; rw [if_neg (by omega), ht, hod, hi]
theorem Rep.push (h : Rep n A fl) (m : Int) {k : Int} (h0 : 0 ≤ k) (h1 : k < A.length) : Rep n (push1 m A k) (rPut m fl (cd k)) := by
  have hl := h.len
  have hfl := h.fll
  have key : ∀ (e : Nat) (d : Int), e < n.E.length → ∀ B : List Arc, B.length = A.length → (∀ a, B.getD a (0, 0) = if a = 2 * e then (aTo A (2 * e : Nat), aLeft A (2 * e : Nat) - d) else if a = 2 * e + 1 then (aTo A ((2 * e + 1 : Nat) : Int), aLeft A ((2 * e + 1 : Nat) : Int) + d) else A.getD a (0, 0)) →
      Rep n B (fl.set e (fl.getD e 0 + d)) := fun e d he B hB hg => by
    refine ⟨by omega, by simp [hfl], fun i hi => ?_, fun i hi => ?_⟩
    · by_cases hie : i = e
      · subst hie
        rw [hg, if_pos rfl, Go.AM.getD_set_eq (by omega)]
        have := h.ev i hi
        simp only [aTo, aLeft, Int.toNat_natCast, this]
        congr 1; omega
      · rw [hg, if_neg (by omega), if_neg (by omega), Go.AM.getD_set_ne (Ne.symm hie)]; exact h.ev i hi
    · by_cases hie : i = e
      · subst hie
        rw [hg, if_neg (by omega), if_pos rfl, Go.AM.getD_set_eq (by omega)]
        have := h.od i hi
        simp only [aTo, aLeft, Int.toNat_natCast, this]
      · rw [hg, if_neg (by omega), if_neg (by omega), Go.AM.getD_set_ne (Ne.symm hie)]; exact h.od i hi
  have hset : ∀ (a b : Nat) (x y : Arc), a ≠ b → a < A.length → b < A.length → ∀ c, ((A.set a x).set b y).getD c (0, 0) = if c = b then y else if c = a then x else A.getD c (0, 0) := fun a b x y hab ha hb c => by
    by_cases hc : b = c
    · subst hc; rw [if_pos rfl, Go.AM.getD_set_eq (by simpa using hb)]
    · rw [if_neg (Ne.symm hc), Go.AM.getD_set_ne hc]
      by_cases hc2 : a = c
      · subst hc2; rw [if_pos rfl, Go.AM.getD_set_eq ha]
      · rw [if_neg (Ne.symm hc2), Go.AM.getD_set_ne hc2]
  by_cases hk : k % 2 = 0
  · obtain ⟨e, he⟩ : ∃ e : Nat, k = 2 * e := ⟨(k / 2).toNat, by omega⟩
    have hcd : cd k = e := by unfold cd; rw [if_pos hk]; omega
    have hx : x1 k = 2 * e + 1 := by unfold x1; rw [if_pos hk]; omega
    have ht : k.toNat = 2 * e := by omega
    have ht2 : (x1 k).toNat = 2 * e + 1 := by omega
    have e1 : rPut m fl (cd k) = fl.set e (fl.getD e 0 + m) := by rw [hcd]; unfold rPut; rw [if_pos (by omega)]; simp
    rw [e1]
    refine key e m (by omega) _ (push1_len _ _ _) fun a => ?_
    unfold push1 aSet
    rw [ht, ht2, hset _ _ _ _ (by omega) (by omega) (by omega)]
    have hk' : ((2 * e : Nat) : Int) = k := by omega
    have hk2 : ((2 * e + 1 : Nat) : Int) = x1 k := by omega
    rw [hk', hk2]
    have g1 : (A.set (2 * e) (aTo A k, aLeft A k - m)).getD (2 * e + 1) (0, 0) = A.getD (2 * e + 1) (0, 0) := Go.AM.getD_set_ne (by omega) _ _
    simp only [aTo, aLeft, ht, ht2] at g1 ⊢
    rw [g1]
    split
    · rename_i h2; rw [if_neg (by omega)]
    · rfl
  · obtain ⟨e, he⟩ : ∃ e : Nat, k = 2 * e + 1 := ⟨(k / 2).toNat, by omega⟩
    have hcd : cd k = -2 - e := by unfold cd; rw [if_neg hk]; omega
    have hx : x1 k = 2 * e := by unfold x1; rw [if_neg hk]; omega
    have ht : k.toNat = 2 * e + 1 := by omega
    have ht2 : (x1 k).toNat = 2 * e := by omega
    have hi : (-2 - (-2 - (e : Int))).toNat = e := by omega
    have e1 : rPut m fl (cd k) = fl.set e (fl.getD e 0 + (-m)) := by rw [hcd]; unfold rPut; rw [if_neg (by omega), hi, Int.sub_eq_add_neg]
    rw [e1]
    refine key e (-m) (by omega) _ (push1_len _ _ _) fun a => ?_
    unfold push1 aSet
    rw [ht, ht2, hset _ _ _ _ (by omega) (by omega) (by omega)]
    have hk' : ((2 * e : Nat) : Int) = x1 k := by omega
    have hk2 : ((2 * e + 1 : Nat) : Int) = k := by omega
    rw [hk', hk2]
    have g1 : (A.set (2 * e + 1) (aTo A k, aLeft A k - m)).getD (2 * e) (0, 0) = A.getD (2 * e) (0, 0) := Go.AM.getD_set_ne (by omega) _ _
    simp only [aTo, aLeft, ht, ht2] at g1 ⊢
    rw [g1]
    split
    · congr 1; omega
    · split
      · congr 1
      · rfl
theorem Rep.pushA (m : Int) : ∀ {ks : List Int} {A : List Arc} {fl : List Int}, Rep n A fl → (∀ k ∈ ks, 0 ≤ k ∧ k < A.length) → Rep n (pushA A m ks) (rAug m fl (ks.map cd))
  | [], _, _, h, _ => h
  | k :: ks, A, fl, h, hk => by
    have h1 := hk k (List.mem_cons_self ..)
    exact Rep.pushA m (ks := ks) (h.push m h1.1 h1.2) fun c hc => by rw [push1_len]; exact hk c (List.mem_cons_of_mem _ hc)
theorem Rep.flowOf (h : Rep n A fl) : flowOf A n.E.length = fl := by
  have e1 : AM.flowOf A n.E.length = (List.range n.E.length).map fun i => fl.getD i 0 := by
    unfold AM.flowOf
    refine List.map_congr_left fun i hi => ?_
    have := h.od i (List.mem_range.1 hi)
    show (A.getD (2 * (i : Int) + 1).toNat (0, 0)).2 = _
    rw [show (2 * (i : Int) + 1).toNat = 2 * i + 1 by omega, this]
  rw [e1]
  apply List.ext_getElem
  · simp [h.fll]
  · intro i h1 h2
    simp [List.getD_eq_getElem?_getD, h2]
end

/-! ### What open makes. -/
structure OpenI (n : Net) (j : Nat) (st : List Arc × List (List Int)) : Prop where
  len : st.1.length = 2 * j
  ev : ∀ e, e < j → st.1.getD (2 * e) (0, 0) = ((eAt n.E e).to, (eAt n.E e).cap)
  od : ∀ e, e < j → st.1.getD (2 * e + 1) (0, 0) = ((eAt n.E e).fr, 0)
  ll : st.2.length = n.N.toNat
  lv : ∀ v : Int, 0 ≤ v → v < n.N → ∀ k, k ∈ st.2.getD v.toNat [] ↔ 0 ≤ k ∧ k < 2 * j ∧ srcB n.E (cd k) = v
  lg : ∀ v : Nat, (st.2.getD v []).length ≤ 2 * j
theorem mem_set_app {l : List (List Int)} {a i : Nat} {k c : Int} (ha : a < l.length) : c ∈ (l.set a (l.getD a [] ++ [k])).getD i [] ↔ c ∈ l.getD i [] ∨ (a = i ∧ c = k) := by
  by_cases h : a = i
  · subst h; rw [Go.AM.getD_set_eq ha]; simp
  · rw [Go.AM.getD_set_ne h]; simp [h]
theorem open_i {n : Net} (hv : validB n = true) : ∀ j, j ≤ n.E.length → OpenI n j (openAt n j)
  | 0, _ => by
    have e : openAt n 0 = ([], List.replicate n.N.toNat []) := by simp [openAt]
    rw [e]
    refine ⟨rfl, fun e he => by omega, fun e he => by omega, by simp, fun v h0 h1 k => ?_, fun v => by have := openAt_row n v 0; rw [e] at this; exact this⟩
    have : (List.replicate n.N.toNat ([] : List Int)).getD v.toNat [] = [] := by
      rw [List.getD_eq_getElem?_getD, List.getElem?_replicate]; split <;> rfl
    simp only [this]
    constructor
    · intro h; cases h
    · rintro ⟨h2, h3, _⟩; omega
  | j + 1, hj => by
    have ih := open_i hv j (by omega)
    have hx := eAt_get (E := n.E) (i := j) (by omega)
    have hxv := valid_edge hv hx
    rw [openAt_succ hx]
    generalize hst : openAt n j = st at ih
    generalize hxx : eAt n.E j = x at *
    have hrow := fun v => openAt_row n v (j + 1)
    rw [openAt_succ hx, hst] at hrow
    unfold openStep at hrow ⊢
    simp only at hrow ⊢
    have hl := ih.len
    have hll := ih.ll
    have g : ∀ (a : Nat) d, a < 2 * j → (st.1 ++ d).getD a (0, 0) = st.1.getD a (0, 0) := fun a d ha => by
      simp only [List.getD_eq_getElem?_getD]; rw [List.getElem?_append_left (by omega)]
    have g2 : ∀ (a : Nat) (d : List Arc), (st.1 ++ d).getD (2 * j + a) (0, 0) = d.getD a (0, 0) := fun a d => by
      simp only [List.getD_eq_getElem?_getD]; rw [List.getElem?_append_right (by omega)]; congr 3; omega
    refine ⟨by simp; omega, fun e he => ?_, fun e he => ?_, by simp [hll], fun v h0 h1 k => ?_, hrow⟩
    · by_cases hej : e = j
      · subst hej; have := g2 0 [(x.to, x.cap), (x.fr, 0)]; simp only [Nat.add_zero] at this; rw [this, hxx]; rfl
      · rw [g _ _ (by omega)]; exact ih.ev e (by omega)
    · by_cases hej : e = j
      · subst hej; rw [g2 1, hxx]; rfl
      · rw [g _ _ (by omega)]; exact ih.od e (by omega)
    · rw [mem_set_app (by simp; omega), mem_set_app (by omega), ih.lv v h0 h1 k, hl]
      have c1 : srcB n.E (cd (2 * (j : Int))) = x.fr := by
        have : cd (2 * (j : Int)) = j := by unfold cd; rw [if_pos (by omega)]; omega
        rw [this]; unfold srcB; rw [if_pos (by omega)]; simp [hxx]
      have c2 : srcB n.E (cd (2 * (j : Int) + 1)) = x.to := by
        have : cd (2 * (j : Int) + 1) = -2 - j := by unfold cd; rw [if_neg (by omega)]; omega
        rw [this]; unfold srcB; rw [if_neg (by omega), show (-2 - (-2 - (j : Int))).toNat = j by omega, hxx]
      constructor
      · rintro ((⟨h2, h3, h4⟩ | ⟨h2, h3⟩) | ⟨h2, h3⟩)
        · exact ⟨h2, by omega, h4⟩
        · have : k = 2 * (j : Int) := by omega
          subst this; exact ⟨by omega, by omega, by rw [c1]; omega⟩
        · have : k = 2 * (j : Int) + 1 := by omega
          subst this; exact ⟨by omega, by omega, by rw [c2]; omega⟩
      · rintro ⟨h2, h3, h4⟩
        by_cases hk1 : k = 2 * (j : Int)
        · subst hk1; rw [c1] at h4; exact .inl (.inr ⟨by omega, by omega⟩)
        · by_cases hk2 : k = 2 * (j : Int) + 1
          · subst hk2; rw [c2] at h4; exact .inr ⟨by omega, by omega⟩
          · exact .inl (.inl ⟨h2, by omega, h4⟩)
theorem open_rep {n : Net} (hv : validB n = true) : Rep n (openP n).1 (List.replicate n.E.length 0) := by
  have h := open_i hv n.E.length (Nat.le_refl _)
  rw [openAt_all (Nat.le_refl _)] at h
  have hz : ∀ i, (List.replicate n.E.length (0 : Int)).getD i 0 = 0 := fun i => by
    rw [List.getD_eq_getElem?_getD, List.getElem?_replicate]; split <;> rfl
  exact ⟨h.len, by simp, fun e he => by rw [h.ev e he, hz]; simp, fun e he => by rw [h.od e he, hz]⟩
end Go.AM
/- The program's filling: it ends, and its flow is the greatest. -/
namespace Go.AM
def FInv (n : Net) (s t : Int) (A : List Arc) (v : Int) : Prop := ∃ fl, IsFlow n s t fl ∧ Rep n A fl ∧ v = bal n fl s ∧ 0 ≤ v
section
variable {n : Net} {s t : Int} {A : List Arc} {fl : List Int}
theorem open_len {n : Net} (hv : validB n = true) : OpenI n n.E.length (openP n) := by
  have h := open_i hv n.E.length (Nat.le_refl _)
  rwa [openAt_all (Nat.le_refl _)] at h
theorem dst_rng {n : Net} (hv : validB n = true) {b : Int} (hb : okB n.E b) : 0 ≤ dstB n.E b ∧ dstB n.E b < n.N.toNat ∧ 0 ≤ srcB n.E b ∧ srcB n.E b < n.N.toNat := by
  unfold dstB srcB
  rcases hb with hb | hb
  · rw [if_pos hb.1, if_pos hb.1]; have := edges_in hv b.toNat (by omega); omega
  · rw [if_neg (by omega), if_neg (by omega)]; have := edges_in hv (-2 - b).toNat (by omega); omega
theorem room_rng (hv : validB n = true) (h : IsFlow n s t fl) {b : Int} (hb : okB n.E b) : 0 ≤ room n.E fl b ∧ room n.E fl b ≤ 1125899906842624 := by
  unfold room
  rcases hb with hb | hb
  · rw [if_pos hb.1]; have := h.caps b.toNat (by omega); have := valid_edge hv (eAt_get (E := n.E) (i := b.toNat) (by omega)); omega
  · rw [if_neg (by omega)]; have := flow_bnd hv h (-2 - b).toNat; omega
theorem lv_ok (hv : validB n = true) (hR : Rep n A fl) : LvOk A (openP n).2 (fun k => srcB n.E (cd k)) n.N.toNat := by
  have ho := open_len hv
  refine ⟨fun v h0 h1 k hk => ?_⟩
  obtain ⟨a, b, c⟩ := (ho.lv v h0 (by omega) k).1 hk
  have hl := hR.len
  obtain ⟨c1, c2, c3, c4, c5, c6⟩ := cd_facts hR a (by omega)
  have := dst_rng hv c1
  rw [c2] at this
  exact ⟨a, by omega, c, this.1, this.2.1⟩
theorem wf_r (hv : validB n = true) (hR : Rep n A fl) : WfR A (openP n).2 n.N.toNat := by
  have ho := open_len hv
  obtain ⟨hN1, hN2, hE⟩ := valid_size hv
  have hl := hR.len
  refine ⟨ho.ll, by omega, by omega, fun a ha => ?_, fun l hl' k hk => ?_, fun l hl' => ?_⟩
  · obtain ⟨i, hi, rfl⟩ := List.mem_iff_getElem.1 ha
    obtain ⟨c1, c2, _⟩ := cd_facts hR (k := (i : Int)) (by omega) (by omega)
    have := dst_rng hv c1
    rw [c2] at this
    have e : aTo A (i : Int) = A[i].1 := by unfold aTo; rw [Int.toNat_natCast, List.getD_eq_getElem?_getD, List.getElem?_eq_getElem hi]; rfl
    rw [e] at this
    exact ⟨this.1, this.2.1⟩
  · obtain ⟨i, hi, rfl⟩ := List.mem_iff_getElem.1 hl'
    have := ho.ll
    have := ((ho.lv (i : Int) (by omega) (by omega) k).1 (by rw [Int.toNat_natCast, List.getD_eq_getElem?_getD, List.getElem?_eq_getElem hi]; exact hk))
    omega
  · obtain ⟨i, hi, rfl⟩ := List.mem_iff_getElem.1 hl'
    have := ho.lg i
    rw [List.getD_eq_getElem?_getD, List.getElem?_eq_getElem hi] at this
    simp only [Option.getD_some] at this
    omega
theorem bnd_r (hv : validB n = true) (h : IsFlow n s t fl) (hR : Rep n A fl) : Bnd A 1125899906842624 := by
  intro k
  by_cases hk : k.toNat < A.length
  · obtain ⟨c1, c2, c3, c4, _⟩ := cd_facts hR (k := (k.toNat : Int)) (by omega) (by omega)
    have := room_rng hv h c1
    rw [c4] at this
    have e : aLeft A ((k.toNat : Nat) : Int) = aLeft A k := by unfold aLeft; rw [Int.toNat_natCast]
    rw [e] at this
    omega
  · unfold aLeft; rw [getD_out (by omega)]; simp
theorem reach_pi (hv : validB n = true) (hR : Rep n A fl) (h0 : 0 ≤ s) (h1 : s < n.N) : ∃ r q, reachP A (openP n).2 s = some r ∧ PI A (openP n).2 (fun k => srcB n.E (cd k)) s n.N.toNat q.length (r, q) := by
  have ho := open_len hv
  unfold reachP
  rw [ho.ll]
  exact bfs_end (lv_ok hv hR) (n.N.toNat + 1) 0 (by0 n.N.toNat s) (by simp) (by omega) (PI.start h0 (by omega))
theorem path_tr {q pr : List Int} {N : Nat} (hR : Rep n A fl) (h : PI A (openP n).2 (fun k => srcB n.E (cd k)) s N q.length (pr, q)) : ∀ (f : Nat) (u : Int) (ks : List Int), u ∈ q → path A pr f u = some ks → TrB n.E fl (fun a => q.idxOf a) s (ks.map cd) u ∧ ∀ k ∈ ks, 0 ≤ k ∧ k < A.length
  | 0, u, ks, _, hp => by cases hp
  | f + 1, u, ks, hu, hp => by
    by_cases hus : u = s
    · subst hus
      have hs := h.hs
      simp only at hs
      obtain rfl := path_end hp (by omega)
      exact ⟨rfl, by simp⟩
    · obtain ⟨j, hj⟩ := mem_idx hu h.hd hus
      obtain ⟨k1, k2, k3, k4, i', k5, k6⟩ := h.tr j u hj
      simp only at k1 k2 k3 k4 k6
      obtain ⟨f', l, e1, rfl, e2⟩ := path_step hp k1
      have : f' = f := by omega
      subst this
      obtain ⟨c1, c2, c3, c4, _⟩ := cd_facts hR k1 k2
      obtain ⟨r1, r2⟩ := path_tr hR h f' _ l (List.mem_of_getElem? k6) (by rw [c3]; exact e2)
      refine ⟨⟨c1, by rw [c2, k3], ?_, by rw [c4]; exact k4, r1⟩, fun k hk => ?_⟩
      · show q.idxOf _ < q.idxOf _
        rw [idxOf_of h.nd k6, idxOf_of h.nd hj]; exact k5
      · rcases List.mem_cons.1 hk with rfl | hk
        · exact ⟨k1, k2⟩
        · exact r2 k hk
theorem path_some {q pr : List Int} {N : Nat} (hR : Rep n A fl) (h : PI A (openP n).2 (fun k => srcB n.E (cd k)) s N q.length (pr, q)) : ∀ (f j : Nat) (u : Int), q[j]? = some u → j < f → ∃ ks, path A pr f u = some ks
  | 0, j, u, _, hf => by omega
  | f + 1, j, u, hu, hf => by
    unfold path
    cases j with
    | zero =>
      rw [h.hd] at hu
      obtain rfl := Option.some.inj hu
      have hs := h.hs
      simp only at hs
      exact ⟨[], by rw [if_neg (by omega)]⟩
    | succ j =>
      obtain ⟨k1, k2, k3, k4, i', k5, k6⟩ := h.tr j u hu
      simp only at k1 k2 k3 k4 k6
      rw [if_pos k1]
      obtain ⟨c1, c2, c3, c4, _⟩ := cd_facts hR k1 k2
      obtain ⟨l, hl⟩ := path_some hR h f i' _ k6 (by omega)
      rw [← c3, hl]
      exact ⟨_, rfl⟩
theorem least_fold (A : List Arc) : ∀ (ks : List Int) (m : Int), (∀ k ∈ ks, 0 < aLeft A k) → (0 < m → 0 < ks.foldl (fun m k => least m (aLeft A k)) m ∧ ks.foldl (fun m k => least m (aLeft A k)) m ≤ m ∧ ∀ k ∈ ks, ks.foldl (fun m k => least m (aLeft A k)) m ≤ aLeft A k) ∧
    (m < 0 → ks ≠ [] → 0 < ks.foldl (fun m k => least m (aLeft A k)) m ∧ ∀ k ∈ ks, ks.foldl (fun m k => least m (aLeft A k)) m ≤ aLeft A k)
  | [], m, _ => ⟨fun h => ⟨h, Int.le_refl _, fun k hk => by cases hk⟩, fun _ h => absurd rfl h⟩
  | c :: ks, m, h => by
    have hc := h c (List.mem_cons_self ..)
    have hks := fun k hk => h k (List.mem_cons_of_mem _ hk)
    have hl : 0 < least m (aLeft A c) ∨ (¬ m < 0 ∧ ¬ 0 < m) := by unfold least; split <;> omega
    constructor
    · intro hm
      have hl1 : 0 < least m (aLeft A c) ∧ least m (aLeft A c) ≤ m ∧ least m (aLeft A c) ≤ aLeft A c := by unfold least; split <;> omega
      obtain ⟨a1, a2, a3⟩ := (least_fold A ks (least m (aLeft A c)) hks).1 hl1.1
      refine ⟨a1, Int.le_trans a2 hl1.2.1, fun k hk => ?_⟩
      rcases List.mem_cons.1 hk with rfl | hk
      · exact Int.le_trans a2 hl1.2.2
      · exact a3 k hk
    · intro hm _
      have hl1 : 0 < least m (aLeft A c) ∧ least m (aLeft A c) ≤ aLeft A c := by unfold least; split <;> omega
      obtain ⟨a1, a2, a3⟩ := (least_fold A ks (least m (aLeft A c)) hks).1 hl1.1
      refine ⟨a1, fun k hk => ?_⟩
      rcases List.mem_cons.1 hk with rfl | hk
      · exact Int.le_trans a2 hl1.2
      · exact a3 k hk
/-- One augmentation. -/
theorem fill_step (hv : validB n = true) (hst : s ≠ t) (h0 : 0 ≤ t) (h1 : t < n.N) {q pr ks : List Int} (h : IsFlow n s t fl) (hR : Rep n A fl) (hp : PI A (openP n).2 (fun k => srcB n.E (cd k)) s n.N.toNat q.length (pr, q)) (ht : pr.getD t.toNat 0 ≠ -1) {f : Nat} (hk : path A pr f t = some ks) :
    0 < mostOf A ks ∧ mostOf A ks ≤ 1125899906842624 ∧ IsFlow n s t (rAug (mostOf A ks) fl (ks.map cd)) ∧ Rep n (pushA A (mostOf A ks) ks) (rAug (mostOf A ks) fl (ks.map cd)) ∧ bal n (rAug (mostOf A ks) fl (ks.map cd)) s = bal n fl s + mostOf A ks := by
  have htq := (hp.seen t h0 (by omega)).1 ht
  obtain ⟨hT, hkr⟩ := path_tr hR hp f t ks htq hk
  have hleft : ∀ k ∈ ks, 0 < aLeft A k := fun k hkm => by
    have := (hT.rank_le (cd k) (List.mem_map_of_mem hkm)).2.2.2
    rw [(cd_facts hR (hkr k hkm).1 (hkr k hkm).2).2.2.2.1] at this
    exact this
  have hne : ks ≠ [] := by
    rintro rfl
    have : t = s := hT
    exact hst this.symm
  obtain ⟨m1, m2⟩ := (least_fold A ks (-1) hleft).2 (by decide) hne
  have m1' : 0 < mostOf A ks := m1
  have m2' : ∀ k ∈ ks, mostOf A ks ≤ aLeft A k := m2
  obtain ⟨k0, hk0⟩ := List.exists_mem_of_ne_nil ks hne
  obtain ⟨a1, a2⟩ := aug_flow (m := mostOf A ks) (by omega) hst h hT (fun b hb => by
    obtain ⟨k, hk1, rfl⟩ := List.mem_map.1 hb
    rw [(cd_facts hR (hkr k hk1).1 (hkr k hk1).2).2.2.2.1]; exact m2' k hk1)
  refine ⟨m1', ?_, a1, hR.pushA _ hkr, a2⟩
  have := m2' k0 hk0
  have := (bnd_r hv h hR k0).2
  omega
end
theorem ends_of {n : Net} {s t : Int} (hst : endsB n s t = true) : 0 ≤ s ∧ s < n.N ∧ 0 ≤ t ∧ t < n.N ∧ s ≠ t := by simp [endsB] at hst; omega
theorem fill_ok {n : Net} {s t : Int} (hv : validB n = true) (hst : endsB n s t = true) : FillOk (openP n).2 n.N.toNat s t (FInv n s t) := by
  have he := ends_of hst
  refine ⟨fun A v ⟨fl, h, hR, hb, h0⟩ => ⟨wf_r hv hR, by have := hR.len; omega, bnd_r hv h hR, h0, by rw [hb]; exact (bal_lim hv h s).2⟩, fun A v pr ⟨fl, h, hR, hb, h0⟩ hr => ?_, fun A v pr ks ⟨fl, h, hR, hb, h0⟩ hr ht hk => ?_⟩
  · obtain ⟨r, q, k1, k2⟩ := reach_pi hv hR he.1 he.2.1
    rw [k1] at hr; obtain rfl := Option.some.inj hr
    exact ⟨k2.l1, k2.vals⟩
  · obtain ⟨r, q, k1, k2⟩ := reach_pi hv hR he.1 he.2.1
    rw [k1] at hr; obtain rfl := Option.some.inj hr
    obtain ⟨m1, m2, m3, m4, m5⟩ := fill_step hv he.2.2.2.2 he.2.2.1 he.2.2.2.1 h hR k2 ht hk
    exact ⟨by omega, m2, _, m3, m4, by rw [hb, m5], by omega⟩
theorem fill_start {n : Net} {s t : Int} (hv : validB n = true) : FInv n s t (openP n).1 0 := by
  refine ⟨_, zero_flow hv, open_rep hv, ?_, by omega⟩
  have hz : ∀ i, (List.replicate n.E.length (0 : Int)).getD i 0 = 0 := fun i => by
    rw [List.getD_eq_getElem?_getD, List.getElem?_replicate]; split <;> rfl
  have : ∀ j, balAt n.E (List.replicate n.E.length 0) s j = 0 := fun j => by
    induction j with
    | zero => rfl
    | succ j ih => rw [balAt, balStep_eq, ih, hz]; simp
  exact (this _).symm
theorem fill_total {n : Net} {s t : Int} (hv : validB n = true) (hst : endsB n s t = true) : ∀ (k : Nat) (A : List Arc) (v : Int), FInv n s t A v → 4611686018427387904 - v < k →
    ∃ F A' v' pr', fillP (openP n).2 s t F A v = some (A', v', pr') ∧ FInv n s t A' v' ∧ reachP A' (openP n).2 s = some pr' ∧ pr'.getD t.toNat 0 = -1 := by
  have he := ends_of hst
  have ho := open_len hv
  intro k
  induction k with
  | zero => rintro A v ⟨fl, h, hR, hb, h0⟩ hk; have := bal_lim hv h s; omega
  | succ k ih =>
    rintro A v ⟨fl, h, hR, hb, h0⟩ hk
    obtain ⟨pr, q, k1, k2⟩ := reach_pi hv hR he.1 he.2.1
    by_cases ht : pr.getD t.toNat 0 = -1
    · exact ⟨1, A, v, pr, by unfold fillP; rw [k1]; simp only; rw [if_pos ht], ⟨fl, h, hR, hb, h0⟩, k1, ht⟩
    · have htq := (k2.seen t he.2.2.1 (by omega)).1 ht
      obtain ⟨j, hj, hjt⟩ := List.mem_iff_getElem.1 htq
      have hlen := nodup_bound _ _ k2.nd k2.rng
      simp only at hlen
      have hjl : j < q.length := hj
      obtain ⟨ks, hks⟩ := path_some hR k2 (n.N.toNat + 1) j t (by rw [List.getElem?_eq_getElem hj, hjt]) (by omega)
      obtain ⟨m1, m2, m3, m4, m5⟩ := fill_step hv he.2.2.2.2 he.2.2.1 he.2.2.2.1 h hR k2 ht hks
      obtain ⟨F, A', v', pr', e1, e2⟩ := ih (pushA A (mostOf A ks) ks) (v + mostOf A ks) ⟨_, m3, m4, by rw [hb, m5], by omega⟩ (by omega)
      exact ⟨F + 1, A', v', pr', by unfold fillP; rw [k1]; simp only; rw [if_neg ht, ho.ll, hks]; exact e1, e2⟩
theorem fill_best {n : Net} {s t : Int} (hv : validB n = true) (hst : endsB n s t = true) {A : List Arc} {fl pr : List Int} (h : IsFlow n s t fl) (hR : Rep n A fl) (hr : reachP A (openP n).2 s = some pr) (ht : pr.getD t.toNat 0 = -1) (g : List Int) (hg : IsFlow n s t g) : bal n g s ≤ bal n fl s := by
  have he := ends_of hst
  have ho := open_len hv
  obtain ⟨r, q, k1, k2⟩ := reach_pi hv hR he.1 he.2.1
  rw [k1] at hr; obtain rfl := Option.some.inj hr
  have hsQ := List.mem_of_getElem? k2.hd
  refine value_le hv he.1 he.2.1 h hg (S := fun u => decide (r.getD u.toNat 0 ≠ -1)) (decide_eq_true ((k2.seen s he.1 (by omega)).2 hsQ)) (decide_eq_false (fun h => h ht)) fun i hi => ?_
  have hin := edges_in hv i hi
  have hc := h.caps i hi
  refine ⟨fun h1 h2 => ?_, fun h1 h2 => ?_⟩
  · have h1' := of_decide_eq_true h1
    have hm := (k2.seen _ hin.1 hin.2.1).1 h1'
    obtain ⟨j, hj, hje⟩ := List.mem_iff_getElem.1 hm
    have hcd : cd (2 * (i : Int)) = i := by unfold cd; rw [if_pos (by omega)]; omega
    have hlv := (ho.lv _ hin.1 (by omega) (2 * (i : Int))).2 ⟨by omega, by omega, by rw [hcd]; unfold srcB; rw [if_pos (by omega)]; simp⟩
    have hcl := k2.cl j _ hj (List.getElem?_eq_getElem hj) (2 * (i : Int)) (by simp only at hje ⊢; rw [hje]; exact hlv)
    have hl : aLeft A (2 * (i : Int)) = (eAt n.E i).cap - fl.getD i 0 := by unfold aLeft; rw [show (2 * (i : Int)).toNat = 2 * i by omega, hR.ev i hi]
    have hto : aTo A (2 * (i : Int)) = (eAt n.E i).to := by unfold aTo; rw [show (2 * (i : Int)).toNat = 2 * i by omega, hR.ev i hi]
    rw [hl, hto] at hcl
    rcases Int.lt_or_le (fl.getD i 0) (eAt n.E i).cap with h3 | h3
    · exact absurd (hcl (by omega)) (fun h => of_decide_eq_false h2 h)
    · omega
  · have h2' := of_decide_eq_true h2
    have hm := (k2.seen _ hin.2.2.1 hin.2.2.2).1 h2'
    obtain ⟨j, hj, hje⟩ := List.mem_iff_getElem.1 hm
    have hcd : cd (2 * (i : Int) + 1) = -2 - i := by unfold cd; rw [if_neg (by omega)]; omega
    have hlv := (ho.lv _ hin.2.2.1 (by omega) (2 * (i : Int) + 1)).2 ⟨by omega, by omega, by rw [hcd]; unfold srcB; rw [if_neg (by omega), show (-2 - (-2 - (i : Int))).toNat = i by omega]⟩
    have hcl := k2.cl j _ hj (List.getElem?_eq_getElem hj) (2 * (i : Int) + 1) (by simp only at hje ⊢; rw [hje]; exact hlv)
    have hl : aLeft A (2 * (i : Int) + 1) = fl.getD i 0 := by unfold aLeft; rw [show (2 * (i : Int) + 1).toNat = 2 * i + 1 by omega, hR.od i hi]
    have hto : aTo A (2 * (i : Int) + 1) = (eAt n.E i).fr := by unfold aTo; rw [show (2 * (i : Int) + 1).toNat = 2 * i + 1 by omega, hR.od i hi]
    rw [hl, hto] at hcl
    rcases Int.lt_or_le 0 (fl.getD i 0) with h3 | h3
    · exact absurd (hcl h3) (fun h => of_decide_eq_false h1 h)
    · omega
end Go.AM
/- The flow examples, computed. -/
namespace Go.AM
def exNet : Net := ⟨3, [⟨0, 1, 3⟩, ⟨1, 2, 2⟩, ⟨0, 2, 1⟩]⟩
theorem ex_valid : validB exNet = true := by decide
theorem ex_ends : endsB exNet 0 2 = true := by decide
theorem ex_fill : fillP (openP exNet).2 0 2 5 (openP exNet).1 0 = some ([(1, 1), (0, 2), (2, 0), (1, 2), (2, 0), (0, 1)], 3, [-2, 0, -1]) := by decide
theorem ex_flow : flowOf [(1, 1), (0, 2), (2, 0), (1, 2), (2, 0), (0, 1)] 3 = [2, 2, 1] := by decide
theorem ex_memb : memb [-2, 0, -1] 3 = [0, 1] := by decide
theorem ex_of : ofW 3 [0, 1] = [3] := by decide
def exWs : List Int := [5, -3, -4]
def exNs : List (Int × Int) := [(0, 1)]
theorem ex_cvalid : validB (cNet exWs exNs) = true := by decide
theorem ex_cfill : fillP (openP (cNet exWs exNs)).2 3 4 5 (openP (cNet exWs exNs)).1 0 = some ([(0, 2), (3, 3), (4, 0), (1, 3), (4, 4), (2, 0), (1, 1125899906842621), (0, 3)], 3, [0, 6, -1, -2, -1]) := by decide
theorem ex_cmemb : memb [0, 6, -1, -2, -1] 3 = [0, 1] := by decide
theorem ex_csum : sumAt exWs [0, 1] = 2 := by decide
end Go.AM
namespace Go.Proofs.F
open Go.AM Go
set_option maxRecDepth 100000
set_option maxHeartbeats 2000000
theorem ex_max : Reads Try.prog 12 false [netV exNet, .int .i64 0, .int .i64 2] (.tup [.int .i64 3, .rsl 1 (ints [2, 2, 1]), .int .i64 0]) :=
  max_r exNet 0 2 ex_valid ex_ends _ (fill_ok ex_valid ex_ends) (fill_start ex_valid) 5 _ _ _ ex_fill rfl
theorem ex_cut : Reads Try.prog 18 false [netV exNet, .int .i64 0, .int .i64 2] (.tup [.agg [.int .i64 3, .rsl 1 (words [3])], .int .i64 3, .int .i64 0]) :=
  cut_r exNet 0 2 ex_valid ex_ends _ (fill_ok ex_valid ex_ends) (fill_start ex_valid) 5 _ _ _ ex_fill rfl
theorem ex_clo : Reads Try.prog 23 false [.rsl 1 (ints exWs), .rsl 2 (exNs.map pairV)] (.tup [.agg [.int .i64 3, .rsl 1 (words [3])], .int .i64 2, .int .i64 0]) :=
  clo_r exWs exNs (by decide) (by decide) (by decide) (by decide) ex_cvalid _ (fill_ok ex_cvalid (by decide)) (fill_start ex_cvalid) 5 _ _ _ ex_cfill rfl
theorem ex_eqi : Reads Try.prog 36 true [.rsl 1 (ints [2, 2, 1]), .rsl 1 (ints [2, 2, 1])] (.bool true) := Reads.flat (eqi_r [2, 2, 1] [2, 2, 1] (by decide)) rfl
theorem ex_eqw : Reads Try.prog 37 true [.rsl 1 (words [3]), .rsl 1 (words [3])] (.bool true) := Reads.flat (eqw_r [3] [3] (by decide)) rfl
theorem awake_r : Reads Try.prog 10 false [] (.bool true) := by
  have h1 := ex_max
  have h2 := ex_cut
  have h3 := ex_clo
  have h4 := ex_eqi
  have h5 := ex_eqw
  simp only [netV, exNet, edgeV, exWs, exNs, pairV, ints, words, List.map_cons, List.map_nil] at h1 h2 h3 h4 h5
  refine Reads.body (rs := [.tmp 0]) Try.func10 rfl Try.ntmps10 rfl (by simp) ?_
  generalize hQr : retQ _ _ _ = Qr
  refine AW.seq fun K1 hK1 => ?_
  -- region 0
  refine AW.regionK 0 (fun _ => none) [] [] ?_
  simp only [go_sem, reduceIte, reduceCtorEq, Nat.reduceAdd, Nat.reduceMul, Nat.reduceEqDiff, Nat.reduceLT, Nat.reduceLeDiff, Nat.reduceSub, Nat.reducePow, Nat.reduceBEq, Int.reduceToNat, List.reduceReplicate, decide_true, eq_self]
  repeat with_reducible refine cj ?_ ?_
  all_goals try first | omega
  refine hK1 _ _ _ ?_; clear hK1
  refine AW.seq fun K2 hK2 => ?_
  -- region 1
  refine AW.regionK 0 (fun _ => none) [1] [1, 14] ?_
  simp only [go_sem, reduceIte, reduceCtorEq, Nat.reduceAdd, Nat.reduceMul, Nat.reduceEqDiff, Nat.reduceLT, Nat.reduceLeDiff, Nat.reduceSub, Nat.reducePow, Nat.reduceBEq, Int.reduceToNat, List.reduceReplicate, decide_true, eq_self]
  repeat with_reducible refine cj ?_ ?_
  all_goals try first | omega
  refine hK2 _ _ _ ?_; clear hK2
  refine AW.seq fun K3 hK3 => ?_
  refine AW.freezeK [1, 14] [1] [] [] ?_
  simp only [go_sem, reduceIte, Nat.reduceEqDiff]
  -- region 2
  refine AW.regionK 0 (fun i => if i = 1 then some (.reads false (.tup [.int .i64 3, .rsl 1 [[.int .i64 2], [.int .i64 2], [.int .i64 1]], .int .i64 0])) else none) [1, 2, 3, 4] [1, 14] ?_
  simp only [go_sem, reduceIte, reduceCtorEq, Nat.reduceAdd, Nat.reduceMul, Nat.reduceEqDiff, Nat.reduceLT, Nat.reduceLeDiff, Nat.reduceSub, Nat.reducePow, Nat.reduceBEq, Int.reduceToNat, List.reduceReplicate, decide_true, eq_self]
  repeat with_reducible refine cj ?_ ?_
  all_goals try first | (exact h1) | omega | exact ent (by kernel_rfl)
  refine hK3 _ _ _ ?_; clear hK3
  refine AW.seq fun K4 hK4 => ?_
  -- region 3
  refine AW.regionK 0 (fun i => if i = 1 then some (.reads false (.tup [.agg [.int .i64 3, .rsl 1 [[.int .u64 3]]], .int .i64 3, .int .i64 0])) else none) [2, 3, 4, 5, 6, 7] [5] ?_
  simp only [go_sem, reduceIte, reduceCtorEq, Nat.reduceAdd, Nat.reduceMul, Nat.reduceEqDiff, Nat.reduceLT, Nat.reduceLeDiff, Nat.reduceSub, Nat.reducePow, Nat.reduceBEq, Int.reduceToNat, List.reduceReplicate, decide_true, eq_self]
  repeat with_reducible refine cj ?_ ?_
  all_goals try first | (exact h2) | omega | exact ent (by kernel_rfl)
  refine hK4 _ _ _ ?_; clear hK4
  refine AW.seq fun K5 hK5 => ?_
  -- region 4
  refine AW.regionG 0 (fun i => if i = 3 then some (.reads false (.tup [.agg [.int .i64 3, .rsl 1 [[.int .u64 3]]], .int .i64 2, .int .i64 0])) else none) (fun i => if i = 3 then some ([29, 31], [29, 31]) else none) [2, 3, 4, 5, 6, 7, 8, 9, 10] [5, 8] ?_
  simp only [go_sem, reduceIte, reduceCtorEq, Nat.reduceAdd, Nat.reduceMul, Nat.reduceEqDiff, Nat.reduceLT, Nat.reduceLeDiff, Nat.reduceSub, Nat.reducePow, Nat.reduceBEq, Int.reduceToNat, List.reduceReplicate, decide_true, eq_self]
  repeat with_reducible refine cj ?_ ?_
  all_goals try first | (exact h3) | omega | exact ent (by kernel_rfl)
  refine hK5 _ _ _ ?_; clear hK5
  refine AW.seq fun K6 hK6 => ?_
  -- region 5
  refine AW.regionK 0 (fun i => if i = 5 then some (.reads true (.bool true)) else if i = 20 then some (.reads true (.bool true)) else if i = 39 then some (.reads true (.bool true)) else none) [0] [] ?_
  simp only [go_sem, reduceIte, reduceCtorEq, Nat.reduceAdd, Nat.reduceMul, Nat.reduceEqDiff, Nat.reduceLT, Nat.reduceLeDiff, Nat.reduceSub, Nat.reducePow, Nat.reduceBEq, Int.reduceToNat, List.reduceReplicate, decide_true, eq_self]
  repeat with_reducible refine cj ?_ ?_
  all_goals try first | (first | exact h4 | exact h5) | (intros; (repeat' apply And.intro) <;> first | assumption | (first | exact h4 | exact h5)) | omega | exact ent (by kernel_rfl) | (simp only [go_sem, reduceIte, reduceCtorEq, Nat.reduceAdd, Nat.reduceMul, Nat.reduceEqDiff, Nat.reduceLT, Nat.reduceLeDiff, Nat.reduceSub, Nat.reducePow, Nat.reduceBEq, Int.reduceToNat, List.reduceReplicate, decide_true, eq_self]; done) | (simp_all [go_sem]; done)
  refine hK6 _ _ _ ?_; clear hK6
  refine AW.ret ?_
  rw [← hQr]
  simp only [go_sem, reduceIte, reduceCtorEq, Nat.reduceAdd, Nat.reduceMul, Nat.reduceEqDiff, Nat.reduceLT, Nat.reduceLeDiff, Nat.reduceSub, Nat.reducePow, Nat.reduceBEq, Int.reduceToNat, List.reduceReplicate, decide_true, eq_self]
  exact Wk.refl _
end Go.Proofs.F
namespace Go.Proofs.F
open Go.AM Go
set_option maxRecDepth 100000
set_option maxHeartbeats 2000000
theorem max_spec (n : Net) (s t : Int) (hlen : n.E.length ≤ 9223372036854775807) : ∃ (v : Int) (fl : List Int) (e : Nat), Reads Try.prog 12 false [netV n, .int .i64 s, .int .i64 t] (.tup [.int .i64 v, .rsl 1 (ints fl), .int .i64 e]) ∧
    (validB n = false → v = 0 ∧ fl = [] ∧ e = 1) ∧ (validB n = true → endsB n s t = false → v = 0 ∧ fl = [] ∧ e = 2) ∧
    (validB n = true → endsB n s t = true → e = 0 ∧ IsFlow n s t fl ∧ v = bal n fl s ∧ ∀ g, IsFlow n s t g → bal n g s ≤ v) := by
  by_cases hv : validB n = true
  · by_cases he : endsB n s t = true
    · obtain ⟨F, A', v', pr', h1, ⟨fl, h2, h3, h4, h5⟩, h6, h7⟩ := fill_total hv he 9223372036854775808 _ _ (fill_start (s := s) (t := t) hv) (by decide)
      refine ⟨v', fl, 0, ?_, fun h => (by rw [hv] at h; cases h), fun _ h => (by rw [he] at h; cases h), fun _ _ => ⟨rfl, h2, h4, fun g hg => by rw [h4]; exact fill_best hv he h2 h3 h6 h7 g hg⟩⟩
      have := max_r n s t hv he _ (fill_ok hv he) (fill_start hv) F A' v' pr' h1 h3.len
      rw [h3.flowOf] at this
      exact this
    · have he' : endsB n s t = false := by simpa using he
      refine ⟨0, [], 2, ?_, fun h => (by rw [hv] at h; cases h), fun _ _ => ⟨rfl, rfl, rfl⟩, fun _ h => absurd h he⟩
      have := max_err n s t hlen (by simp [checkC, hv, he'])
      simpa [checkC, hv, he', ints] using this
  · have hv' : validB n = false := by simpa using hv
    refine ⟨0, [], 1, ?_, fun _ => ⟨rfl, rfl, rfl⟩, fun h => absurd h hv, fun h => absurd h hv⟩
    have := max_err n s t hlen (by simp [checkC, hv'])
    simpa [checkC, hv', ints] using this
theorem rmax_spec (n : Net) (s t : Int) (hv : validB n = true) (he : endsB n s t = true) : ∃ r, Reads Try.prog 17 true [netV n, .int .i64 s, .int .i64 t] (.rsl 1 (ints r)) ∧ IsFlow n s t r ∧ (∀ g, IsFlow n s t g → bal n g s ≤ bal n r s) ∧ ∃ q, rReach n s r = some q ∧ q.1.getD t.toNat false = false := by
  have hz := bal_lim hv (zero_flow (s := s) (t := t) hv) s
  obtain ⟨F, r, h1, h2, q, h3, h4⟩ := ref_total hv he 18446744073709551616 _ (zero_flow (s := s) (t := t) hv) (by omega)
  exact ⟨r, rmax_r n s t hv he _ (ref_ok hv he) (zero_flow hv) F r h1, h2, fun g hg => ref_best hv he h2 h3 h4 g hg, q, h3, h4⟩
theorem law_max (n : Net) (s t : Int) (hlen : n.E.length ≤ 9223372036854775807) : Reads Try.prog 3 false [netV n, .int .i64 s, .int .i64 t] (.bool true) := by
  obtain ⟨v, fl, e, hM, hM1, hM2, hM3⟩ := max_spec n s t hlen
  have haw := awake_r
  have hfew := few_r n
  have hval := rvalid_r n hlen
  have hend := rends_r n s t
  obtain ⟨r, hR⟩ : ∃ r, validB n = true → endsB n s t = true → (Reads Try.prog 17 true [netV n, .int .i64 s, .int .i64 t] (.rsl 1 (ints r)) ∧ IsFlow n s t r ∧ (∀ g, IsFlow n s t g → bal n g s ≤ bal n r s)) := by
    by_cases hv : validB n = true
    · by_cases he : endsB n s t = true
      · obtain ⟨r, h1, h2, h3, _⟩ := rmax_spec n s t hv he
        exact ⟨r, fun _ _ => ⟨h1, h2, h3⟩⟩
      · exact ⟨[], fun _ h => absurd h he⟩
    · exact ⟨[], fun h => absurd h hv⟩
  have hfr := fun (hv : validB n = true) (h : fl.length ≤ 9223372036854775807) => flow_r n s t fl hv h
  have hvr := fun (g : List Int) (hv : validB n = true) (hg : IsFlow n s t g) => val_r n g s (by have := valid_size hv; omega) hg.len (fun i => by have := flow_bnd hv hg i; omega)
  unfold netV at *
  refine Reads.body (rs := [.tmp 6]) Try.func3 rfl Try.ntmps3 rfl (by simp) ?_
  generalize hQr : retQ _ _ _ = Qr
  refine AW.seq fun K1 hK1 => ?_
  -- region 0
  refine AW.regionK 0 (fun _ => none) [1, 2, 3] [3] ?_
  simp only [go_sem, reduceIte, reduceCtorEq, Nat.reduceAdd, Nat.reduceMul, Nat.reduceEqDiff, Nat.reduceLT, Nat.reduceLeDiff, Nat.reduceSub, Nat.reducePow, Nat.reduceBEq, Int.reduceToNat, List.reduceReplicate]
  repeat with_reducible refine cj ?_ ?_
  all_goals try first | omega
  refine hK1 _ _ _ ?_; clear hK1
  refine AW.seq fun K2 hK2 => ?_
  refine AW.seq fun K3 hK3 => ?_
  -- region 1
  refine AW.regionK 0 (fun i => if i = 0 then some (.reads false (.bool true)) else none) [1, 2, 3, 11] [3] ?_
  simp only [go_sem, reduceIte, reduceCtorEq, Nat.reduceAdd, Nat.reduceMul, Nat.reduceEqDiff, Nat.reduceLT, Nat.reduceLeDiff, Nat.reduceSub, Nat.reducePow, Nat.reduceBEq, Int.reduceToNat, List.reduceReplicate]
  repeat with_reducible refine cj ?_ ?_
  all_goals try first | (exact haw) | omega | exact ent (by kernel_rfl)
  refine hK3 _ _ _ ?_; clear hK3
  -- cond 1
  refine AW.cond rfl (by simp only [go_sem, reduceIte, reduceCtorEq, Nat.reduceAdd, Nat.reduceMul, Nat.reduceEqDiff, Nat.reduceLT, Nat.reduceLeDiff, Nat.reduceSub, Nat.reducePow, Nat.reduceBEq, Int.reduceToNat, List.reduceReplicate]) ?_ ?_
  · intro hb
    try simp only [hB, decide_eq_true_eq, decide_eq_false_iff_not] at hb
    simp at hb
  · intro hb
    try simp only [hB, decide_eq_true_eq, decide_eq_false_iff_not] at hb
    refine AW.skip ?_
    refine hK2 _ _ _ ?_; clear hK2
    refine AW.seq fun K4 hK4 => ?_
    refine AW.seq fun K5 hK5 => ?_
    -- region 3
    refine AW.regionK 0 (fun i => if i = 1 then some (.reads false (.bool (fewB n))) else none) [1, 2, 3, 14] [3] ?_
    simp only [go_sem, reduceIte, reduceCtorEq, Nat.reduceAdd, Nat.reduceMul, Nat.reduceEqDiff, Nat.reduceLT, Nat.reduceLeDiff, Nat.reduceSub, Nat.reducePow, Nat.reduceBEq, Int.reduceToNat, List.reduceReplicate]
    repeat with_reducible refine cj ?_ ?_
    all_goals try first | (exact hfew) | omega | exact ent (by kernel_rfl)
    refine hK5 _ _ _ ?_; clear hK5
    -- cond 2
    refine AW.cond rfl (by simp only [go_sem, reduceIte, reduceCtorEq, Nat.reduceAdd, Nat.reduceMul, Nat.reduceEqDiff, Nat.reduceLT, Nat.reduceLeDiff, Nat.reduceSub, Nat.reducePow, Nat.reduceBEq, Int.reduceToNat, List.reduceReplicate]) ?_ ?_
    · intro hb
      try simp only [hB, decide_eq_true_eq, decide_eq_false_iff_not] at hb
      refine AW.seq fun K6 hK6 => ?_
      -- region 4
      refine AW.regionK 0 (fun _ => none) [6] [] ?_
      simp only [go_sem, reduceIte, reduceCtorEq, Nat.reduceAdd, Nat.reduceMul, Nat.reduceEqDiff, Nat.reduceLT, Nat.reduceLeDiff, Nat.reduceSub, Nat.reducePow, Nat.reduceBEq, Int.reduceToNat, List.reduceReplicate]
      repeat with_reducible refine cj ?_ ?_
      all_goals try first | omega
      refine hK6 _ _ _ ?_; clear hK6
      refine AW.ret ?_
      rw [← hQr]
      simp only [go_sem, reduceIte, reduceCtorEq, Nat.reduceAdd, Nat.reduceMul, Nat.reduceEqDiff, Nat.reduceLT, Nat.reduceLeDiff, Nat.reduceSub, Nat.reducePow, Nat.reduceBEq, Int.reduceToNat, List.reduceReplicate]
      exact Wk.refl _
    · intro hb
      try simp only [hB, decide_eq_true_eq, decide_eq_false_iff_not] at hb
      refine AW.skip ?_
      refine hK4 _ _ _ ?_; clear hK4
      refine AW.seq fun K7 hK7 => ?_
      -- region 5
      refine AW.regionK 0 (fun i => if i = 3 then some (.reads false (.tup [.int .i64 v, .rsl 1 (ints fl), .int .i64 e])) else none) [1, 2, 3, 7, 8, 9] [3] ?_
      simp only [go_sem, reduceIte, reduceCtorEq, Nat.reduceAdd, Nat.reduceMul, Nat.reduceEqDiff, Nat.reduceLT, Nat.reduceLeDiff, Nat.reduceSub, Nat.reducePow, Nat.reduceBEq, Int.reduceToNat, List.reduceReplicate]
      repeat with_reducible refine cj ?_ ?_
      all_goals try first | (exact hM) | omega | exact ent (by kernel_rfl)
      refine hK7 _ _ _ ?_; clear hK7
      refine AW.seq fun K8 hK8 => ?_
      refine AW.block ?_
      refine AW.seq fun K9 hK9 => ?_
      -- region 6
      refine AW.regionK 0 (fun i => if i = 1 then some (.reads false (.bool (validB n))) else none) [1, 2, 3, 7, 8, 9, 23] [3] ?_
      simp only [go_sem, reduceIte, reduceCtorEq, Nat.reduceAdd, Nat.reduceMul, Nat.reduceEqDiff, Nat.reduceLT, Nat.reduceLeDiff, Nat.reduceSub, Nat.reducePow, Nat.reduceBEq, Int.reduceToNat, List.reduceReplicate]
      repeat with_reducible refine cj ?_ ?_
      all_goals try first | (exact hval) | omega | exact ent (by kernel_rfl)
      refine hK9 _ _ _ ?_; clear hK9
      -- cond 3
      refine AW.cond rfl (by simp only [go_sem, reduceIte, reduceCtorEq, Nat.reduceAdd, Nat.reduceMul, Nat.reduceEqDiff, Nat.reduceLT, Nat.reduceLeDiff, Nat.reduceSub, Nat.reducePow, Nat.reduceBEq, Int.reduceToNat, List.reduceReplicate]) ?_ ?_
      · intro hb
        try simp only [hB, decide_eq_true_eq, decide_eq_false_iff_not] at hb
        obtain ⟨rfl, rfl, rfl⟩ := hM1 hb
        refine AW.seq fun K10 hK10 => ?_
        -- region 7
        refine AW.regionK 0 (fun _ => none) [6] [] ?_
        simp only [go_sem, reduceIte, reduceCtorEq, Nat.reduceAdd, Nat.reduceMul, Nat.reduceEqDiff, Nat.reduceLT, Nat.reduceLeDiff, Nat.reduceSub, Nat.reducePow, Nat.reduceBEq, Int.reduceToNat, List.reduceReplicate]
        repeat with_reducible refine cj ?_ ?_
        all_goals try first | omega | (simp only [go_sem, reduceIte, reduceCtorEq, Nat.reduceAdd, Nat.reduceMul, Nat.reduceEqDiff, Nat.reduceLT, Nat.reduceLeDiff, Nat.reduceSub, Nat.reducePow, Nat.reduceBEq, Int.reduceToNat, List.reduceReplicate]; done) | (simp_all [go_sem]; done)
        refine hK10 _ _ _ ?_; clear hK10
        refine AW.ret ?_
        rw [← hQr]
        simp only [go_sem, reduceIte, reduceCtorEq, Nat.reduceAdd, Nat.reduceMul, Nat.reduceEqDiff, Nat.reduceLT, Nat.reduceLeDiff, Nat.reduceSub, Nat.reducePow, Nat.reduceBEq, Int.reduceToNat, List.reduceReplicate]
        exact Wk.of_eq (by simp)
      · intro hb
        try simp only [hB, decide_eq_true_eq, decide_eq_false_iff_not] at hb
        have hv := hb
        refine AW.seq fun K11 hK11 => ?_
        -- region 8
        refine AW.regionK 0 (fun i => if i = 3 then some (.reads false (.bool (endsB n s t))) else none) [1, 2, 3, 7, 8, 9, 38] [3] ?_
        simp only [go_sem, reduceIte, reduceCtorEq, Nat.reduceAdd, Nat.reduceMul, Nat.reduceEqDiff, Nat.reduceLT, Nat.reduceLeDiff, Nat.reduceSub, Nat.reducePow, Nat.reduceBEq, Int.reduceToNat, List.reduceReplicate]
        repeat with_reducible refine cj ?_ ?_
        all_goals try first | (exact hend) | omega | exact ent (by kernel_rfl)
        refine hK11 _ _ _ ?_; clear hK11
        -- cond 4
        refine AW.cond rfl (by simp only [go_sem, reduceIte, reduceCtorEq, Nat.reduceAdd, Nat.reduceMul, Nat.reduceEqDiff, Nat.reduceLT, Nat.reduceLeDiff, Nat.reduceSub, Nat.reducePow, Nat.reduceBEq, Int.reduceToNat, List.reduceReplicate]) ?_ ?_
        · intro hb
          try simp only [hB, decide_eq_true_eq, decide_eq_false_iff_not] at hb
          obtain ⟨rfl, rfl, rfl⟩ := hM2 hv hb
          refine AW.seq fun K12 hK12 => ?_
          -- region 9
          refine AW.regionK 0 (fun _ => none) [6] [] ?_
          simp only [go_sem, reduceIte, reduceCtorEq, Nat.reduceAdd, Nat.reduceMul, Nat.reduceEqDiff, Nat.reduceLT, Nat.reduceLeDiff, Nat.reduceSub, Nat.reducePow, Nat.reduceBEq, Int.reduceToNat, List.reduceReplicate]
          repeat with_reducible refine cj ?_ ?_
          all_goals try first | omega | (simp only [go_sem, reduceIte, reduceCtorEq, Nat.reduceAdd, Nat.reduceMul, Nat.reduceEqDiff, Nat.reduceLT, Nat.reduceLeDiff, Nat.reduceSub, Nat.reducePow, Nat.reduceBEq, Int.reduceToNat, List.reduceReplicate]; done) | (simp_all [go_sem]; done)
          refine hK12 _ _ _ ?_; clear hK12
          refine AW.ret ?_
          rw [← hQr]
          simp only [go_sem, reduceIte, reduceCtorEq, Nat.reduceAdd, Nat.reduceMul, Nat.reduceEqDiff, Nat.reduceLT, Nat.reduceLeDiff, Nat.reduceSub, Nat.reducePow, Nat.reduceBEq, Int.reduceToNat, List.reduceReplicate]
          exact Wk.of_eq (by simp)
        · intro hb
          try simp only [hB, decide_eq_true_eq, decide_eq_false_iff_not] at hb
          obtain ⟨he0, hfl, hvb, hbest⟩ := hM3 hv hb
          subst he0
          obtain ⟨hr1, hr2, hr3⟩ := hR hv hb
          have hfB := (flowB_iff (by have := valid_size hv; omega)).2 hfl
          have heq : v = bal n r s := by have := hbest r hr2; have := hr3 fl hfl; omega
          refine AW.skip ?_
          refine hK8 _ _ _ ?_; clear hK8
          refine AW.seq fun K13 hK13 => ?_
          -- region 10
          refine AW.regionD mixed 0 (fun i => if i = 7 then some (.reads false (.bool (flowB n s t fl))) else if i = 14 then some (.reads false (.int .i64 (bal n fl s))) else if i = 24 then some (.reads true (.rsl 1 (ints r))) else if i = 25 then some (.reads false (.int .i64 (bal n r s))) else none) [6] [] ?_
          simp only [go_sem, reduceIte, reduceCtorEq, Nat.reduceAdd, Nat.reduceMul, Nat.reduceEqDiff, Nat.reduceLT, Nat.reduceLeDiff, Nat.reduceSub, Nat.reducePow, Nat.reduceBEq, Int.reduceToNat, List.reduceReplicate]
          repeat with_reducible refine cj ?_ ?_
          all_goals try first | (first | exact hfr hv (by rw [hfl.len]; exact hlen) | exact hvr fl hv hfl | exact hvr r hv hr2 | exact hr1) | (intros; (repeat' apply And.intro) <;> first | assumption | (first | exact hfr hv (by rw [hfl.len]; exact hlen) | exact hvr fl hv hfl | exact hvr r hv hr2 | exact hr1)) | omega | exact chk (by kernel_rfl) | exact ent (by kernel_rfl) | (simp only [go_sem, reduceIte, reduceCtorEq, Nat.reduceAdd, Nat.reduceMul, Nat.reduceEqDiff, Nat.reduceLT, Nat.reduceLeDiff, Nat.reduceSub, Nat.reducePow, Nat.reduceBEq, Int.reduceToNat, List.reduceReplicate]; done) | (simp_all [go_sem]; done)
          refine hK13 _ _ _ ?_; clear hK13
          refine AW.ret ?_
          rw [← hQr]
          simp only [go_sem, reduceIte, reduceCtorEq, Nat.reduceAdd, Nat.reduceMul, Nat.reduceEqDiff, Nat.reduceLT, Nat.reduceLeDiff, Nat.reduceSub, Nat.reducePow, Nat.reduceBEq, Int.reduceToNat, List.reduceReplicate]
          exact Wk.of_eq (by rw [hfB]; simp [← hvb, ← heq])
end Go.Proofs.F
/- Sets as words: members, cuts. -/
namespace Go.AM
def setW (l : List Bool) (j : Nat) : List Int := (List.range j).foldl (fun W i => if l.getD i false = true then setBit W (i : Int) else W) (List.replicate (wordsN l.length).toNat 0)
theorem setW_succ (l : List Bool) (j : Nat) : setW l (j + 1) = if l.getD j false = true then setBit (setW l j) (j : Int) else setW l j := by
  unfold setW; rw [List.range_succ, List.foldl_append]; rfl
theorem setW_len (l : List Bool) (j : Nat) : (setW l j).length = (wordsN l.length).toNat := by
  induction j with
  | zero => simp [setW]
  | succ j ih => rw [setW_succ]; split <;> simp [setBit, ih]
/-- The two ways to build a set agree. -/
theorem ofW_setW {l : List Int} {b : List Bool} {N : Nat} (hN : b.length = N) (h : ∀ i, i < N → (l.getD i 0 ≠ -1 ↔ b.getD i false = true)) : ofW N (memb l N) = setW b N := by
  unfold ofW memb setW
  rw [hN, List.foldl_map, List.foldl_filter]
  generalize List.replicate (wordsN (N : Int)).toNat (0 : Int) = W
  have : ∀ (r : List Nat) (W : List Int), (∀ i ∈ r, i < N) → r.foldl (fun x y => if (l.getD y 0 != -1) = true then setBit x (y : Int) else x) W = r.foldl (fun W i => if b.getD i false = true then setBit W (i : Int) else W) W := by
    intro r
    induction r with
    | nil => intro W _; rfl
    | cons a r ih =>
      intro W hr
      have ha := h a (hr a (by simp))
      have e : ((l.getD a 0 != -1) = true) = (b.getD a false = true) := by rw [← ha]; simp
      simp only [List.foldl_cons, e]
      exact ih _ fun i hi => hr i (by simp [hi])
  exact this _ W fun i hi => List.mem_range.1 hi
def hasW (W : List Int) (i : Int) : Bool := decide ((bShr .u64 (W.getD (i.tdiv 64).toNat 0) (i.tmod 64)).tmod 2 = 1)
def okW (W : List Int) : Prop := ∀ i, 0 ≤ W.getD i 0 ∧ W.getD i 0 < 18446744073709551616
theorem bShr_nat {w k : Nat} (hk : k < 64) : bShr .u64 (w : Int) (k : Int) = ((w >>> k : Nat) : Int) := by
  unfold bShr
  have : min (k : Int).toNat IntKind.u64.bits = k := by simp [IntKind.bits]; omega
  rw [this, Nat.shiftRight_eq_div_pow, Int.fdiv_eq_ediv_of_nonneg _ (by exact_mod_cast Nat.zero_le _)]
  norm_cast
theorem hasW_bit {W : List Int} {i : Int} (h0 : 0 ≤ i) (hW : 0 ≤ W.getD (i.tdiv 64).toNat 0) : hasW W i = (W.getD (i.tdiv 64).toNat 0).toNat.testBit (i.toNat % 64) := by
  unfold hasW
  obtain ⟨w, hw⟩ : ∃ w : Nat, W.getD (i.tdiv 64).toNat 0 = w := ⟨_, (Int.toNat_of_nonneg hW).symm⟩
  obtain ⟨m, rfl⟩ : ∃ m : Nat, i = m := ⟨_, (Int.toNat_of_nonneg h0).symm⟩
  have e : (m : Int).tmod 64 = ((m % 64 : Nat) : Int) := by rw [Int.tmod_eq_emod_of_nonneg (by omega)]; rfl
  rw [hw, e, bShr_nat (by omega), Int.toNat_natCast, Int.toNat_natCast, Nat.testBit_eq_decide_div_mod_eq, Nat.shiftRight_eq_div_pow]
  generalize w / 2 ^ (m % 64) = d
  rw [Int.tmod_eq_emod_of_nonneg (by omega)]
  congr 1
  apply propext
  omega
theorem bOr_nat {a b : Nat} (ha : a < 18446744073709551616) (hb : b < 18446744073709551616) : bOr .u64 (a : Int) (b : Int) = ((a ||| b : Nat) : Int) := by
  unfold bOr
  have e : (BitVec.ofInt IntKind.u64.bits (a : Int) ||| BitVec.ofInt IntKind.u64.bits (b : Int)).toNat = a ||| b := by
    show (BitVec.ofInt 64 (a : Int) ||| BitVec.ofInt 64 (b : Int) : BitVec 64).toNat = _
    rw [BitVec.toNat_or, BitVec.ofInt_natCast, BitVec.ofInt_natCast, BitVec.toNat_ofNat, BitVec.toNat_ofNat, Nat.mod_eq_of_lt (by omega), Nat.mod_eq_of_lt (by omega)]
  rw [e]
  have : a ||| b < 2 ^ 64 := Nat.or_lt_two_pow (by omega) (by omega)
  simp [IntKind.wrap, IntKind.signed, IntKind.bits]
  omega
theorem bShl_nat {k : Nat} (hk : k < 64) : bShl .u64 1 (k : Int) = ((2 ^ k : Nat) : Int) := by
  unfold bShl
  have : min (k : Int).toNat IntKind.u64.bits = k := by simp [IntKind.bits]; omega
  rw [this]
  have h : (2 : Nat) ^ k < 2 ^ 64 := Nat.pow_lt_pow_right (by decide) hk
  have h2 : (1 : Int) * 2 ^ k = ((2 ^ k : Nat) : Int) := by rw [Int.one_mul]; norm_cast
  rw [h2]
  generalize 2 ^ k = p at h ⊢
  have h3 : p < 18446744073709551616 := by simpa using h
  simp [IntKind.wrap, IntKind.signed, IntKind.bits]
  omega
theorem okW.set {W : List Int} (h : okW W) {i : Int} (h0 : 0 ≤ i) : okW (setBit W i) ∧ ∀ j : Int, 0 ≤ j → (j.tdiv 64).toNat < W.length → hasW (setBit W i) j = (decide (i = j) || hasW W j) := by
  have hq : (i.tmod 64) = ((i.toNat % 64 : Nat) : Int) := by rw [Int.tmod_eq_emod_of_nonneg h0]; omega
  generalize hk : (i.tdiv 64).toNat = k
  obtain ⟨w, hw⟩ : ∃ w : Nat, W.getD k 0 = w := ⟨_, (Int.toNat_of_nonneg (h k).1).symm⟩
  have hw2 : w < 18446744073709551616 := by have := (h k).2; omega
  have hp : 2 ^ (i.toNat % 64) < 18446744073709551616 := by
    have : (2 : Nat) ^ (i.toNat % 64) < 2 ^ 64 := Nat.pow_lt_pow_right (by decide) (Nat.mod_lt _ (by decide))
    simpa using this
  have hv : bOr .u64 (W.getD k 0) (bShl .u64 1 (i.tmod 64)) = ((w ||| 2 ^ (i.toNat % 64) : Nat) : Int) := by
    rw [hq, hw, bShl_nat (Nat.mod_lt _ (by decide)), bOr_nat hw2 hp]
  have hor : w ||| 2 ^ (i.toNat % 64) < 18446744073709551616 := by
    have : w ||| 2 ^ (i.toNat % 64) < 2 ^ 64 := Nat.or_lt_two_pow (by omega) (by omega)
    simpa using this
  have hs : setBit W i = W.set k ((w ||| 2 ^ (i.toNat % 64) : Nat) : Int) := by unfold setBit; rw [hk, hv]
  have hok : okW (setBit W i) := by
    intro j
    rw [hs]
    by_cases hj : j = k ∧ k < W.length
    · rw [hj.1, List.getD_eq_getElem?_getD, List.getElem?_set_self hj.2]; simp; omega
    · have : (W.set k ((w ||| 2 ^ (i.toNat % 64) : Nat) : Int)).getD j 0 = W.getD j 0 := by
        rw [List.getD_eq_getElem?_getD, List.getD_eq_getElem?_getD]
        by_cases hjk : k = j
        · subst hjk
          rw [List.getElem?_eq_none (by simp; omega), List.getElem?_eq_none (by omega)]
        · rw [List.getElem?_set_ne hjk]
      rw [this]; exact h j
  refine ⟨hok, fun j hj hl => ?_⟩
  rw [hasW_bit hj (hok _).1, hasW_bit hj (h _).1]
  rw [hs]
  have hjq : (j.tdiv 64).toNat = j.toNat / 64 := by rw [Int.tdiv_eq_ediv_of_nonneg hj]; omega
  have hiq : k = i.toNat / 64 := by rw [← hk, Int.tdiv_eq_ediv_of_nonneg h0]; omega
  rw [hjq] at hl ⊢
  by_cases hjk : j.toNat / 64 = k
  · rw [hjk] at hl ⊢
    rw [List.getD_eq_getElem?_getD, List.getElem?_set_self hl, Option.getD_some, Int.toNat_natCast, Nat.testBit_or, Nat.testBit_two_pow, hw, Int.toNat_natCast, Bool.or_comm]
    congr 1
    by_cases e : i = j
    · subst e; simp
    · have : i.toNat % 64 ≠ j.toNat % 64 := by omega
      simp [e, this]
  · rw [List.getD_eq_getElem?_getD, List.getElem?_set_ne (fun e => hjk e.symm), ← List.getD_eq_getElem?_getD]
    have e : i ≠ j := by rintro rfl; exact hjk hiq.symm
    simp [e]
theorem okW_zero (n : Nat) : okW (List.replicate n 0) := fun i => by
  rw [List.getD_eq_getElem?_getD, List.getElem?_replicate]; split <;> simp
theorem setW_has (b : List Bool) : ∀ j, j ≤ b.length → okW (setW b j) ∧ ∀ i : Nat, i < b.length → hasW (setW b j) i = (decide (i < j) && b.getD i false)
  | 0, _ => ⟨by unfold setW; exact okW_zero _, fun i hi => by
      have : hasW (List.replicate (wordsN b.length).toNat 0) i = false := by
        rw [hasW_bit (by omega) (okW_zero _ _).1]
        have : (List.replicate (wordsN b.length).toNat (0 : Int)).getD ((i : Int).tdiv 64).toNat 0 = 0 := by
          rw [List.getD_eq_getElem?_getD, List.getElem?_replicate]; split <;> rfl
        rw [this]; simp
      simpa [setW] using this⟩
  | j + 1, hj => by
    obtain ⟨h1, h2⟩ := setW_has b j (by omega)
    rw [setW_succ]
    by_cases hb : b.getD j false = true
    · rw [if_pos hb]
      obtain ⟨h3, h4⟩ := h1.set (i := (j : Int)) (by omega)
      refine ⟨h3, fun i hi => ?_⟩
      rw [h4 i (by omega) (by rw [setW_len]; have := div64_rng (i := (i : Int)) (n := b.length) (by omega) (by omega); omega), h2 i hi]
      by_cases e : j = i
      · subst e; rw [hb]; simp
      · have : ((j : Int) = (i : Int)) = False := by simp; omega
        simp only [this, decide_false, Bool.false_or]
        congr 1
        simp; omega
    · rw [if_neg hb]
      refine ⟨h1, fun i hi => ?_⟩
      rw [h2 i hi]
      by_cases e : j = i
      · subst e
        have : b.getD j false = false := by simpa using hb
        rw [this]; simp
      · congr 1
        simp; omega
theorem setW_mem {b : List Bool} {i : Int} (h0 : 0 ≤ i) (h1 : i < b.length) : hasW (setW b b.length) i = b.getD i.toNat false := by
  obtain ⟨m, rfl⟩ : ∃ m : Nat, i = m := ⟨_, (Int.toNat_of_nonneg h0).symm⟩
  rw [(setW_has b b.length (Nat.le_refl _)).2 m (by omega)]
  have : m < b.length := by omega
  simp [this]
theorem capAt_bnd {E : List Edg} {S : Int → Bool} {B : Int} (h : ∀ i, i < E.length → 0 ≤ (eAt E i).cap ∧ (eAt E i).cap ≤ B) : ∀ j, j ≤ E.length → 0 ≤ capAt E S j ∧ capAt E S j ≤ B * j
  | 0, _ => by simp [capAt]
  | j + 1, hj => by
    have ih := capAt_bnd h (S := S) j (by omega)
    have hb := h j (by omega)
    simp only [capAt]
    rw [Int.natCast_succ, Int.mul_add]
    split <;> omega
end Go.AM
namespace Go.Proofs.F
open Go.AM Go
set_option maxRecDepth 100000
set_option maxHeartbeats 1000000
theorem rset_r (b : List Bool) (hl : b.length ≤ 100000) : Reads Try.prog 45 true [.rsl 1 (bools b)] (.agg [.int .i64 b.length, .rsl 1 (words (setW b b.length))]) := by
  have hwn := wordsN_rng (n := (b.length : Int)) (by omega)
  have hwe : ((b.length : Int) + 63).tdiv 64 = wordsN b.length := by unfold wordsN; congr 1; omega
  refine Reads.bodyF (rs := [.cell 2 37]) Try.func45 rfl Try.ntmps45 rfl (by simp) ?_
  generalize hQr : retQ _ _ _ = Qr
  refine AW.seq fun K1 hK1 => ?_
  -- region 0
  refine AW.regionK 0 (fun _ => none) [0, 2] [2] ?_
  simp only [go_sem, reduceIte, reduceCtorEq, Nat.reduceAdd, Nat.reduceMul, Nat.reduceEqDiff, Nat.reduceLT, Nat.reduceLeDiff, Nat.reduceSub, Nat.reducePow, Nat.reduceBEq, Int.reduceToNat, List.reduceReplicate]
  repeat with_reducible refine cj ?_ ?_
  all_goals try first | omega
  refine hK1 _ _ _ ?_; clear hK1
  refine AW.seq fun K2 hK2 => ?_
  -- region 1
  refine AW.regionK 0 (fun _ => none) [0, 2, 3] [2, 3, 11] ?_
  simp only [go_sem, reduceIte, reduceCtorEq, Nat.reduceAdd, Nat.reduceMul, Nat.reduceEqDiff, Nat.reduceLT, Nat.reduceLeDiff, Nat.reduceSub, Nat.reducePow, Nat.reduceBEq, Int.reduceToNat, List.reduceReplicate, hwe]
  repeat with_reducible refine cj ?_ ?_
  all_goals try first | omega
  refine hK2 _ _ _ ?_; clear hK2
  refine AW.seq fun K3 hK3 => ?_
  refine AW.seq fun K4 hK4 => ?_
  -- region 2
  refine AW.regionK 0 (fun _ => none) [0, 2, 3, 4] [2, 3, 11] ?_
  simp only [go_sem, reduceIte, reduceCtorEq, Nat.reduceAdd, Nat.reduceMul, Nat.reduceEqDiff, Nat.reduceLT, Nat.reduceLeDiff, Nat.reduceSub, Nat.reducePow, Nat.reduceBEq, Int.reduceToNat, List.reduceReplicate]
  repeat with_reducible refine cj ?_ ?_
  all_goals try first | omega
  refine hK4 _ _ _ ?_; clear hK4
  refine AW.block ?_
  -- loop 1
  refine AW.loopE (fun mm ee ss kk => ∃ (j g v gw vw g2 v2 : Nat) (c2 : List AV), b.length - j = mm ∧ ee = [(0, .rsl 1 (bools b)), (2, .ptr ⟨2, g2, none⟩ 0 0), (3, .ptr ⟨3, g, none⟩ 0 0), (4, .int .i64 (j : Nat))] ∧ ss = [(2, some ⟨g2, v2, 2, [[.int .i64 0, .nilsl]]⟩), (3, some ⟨g, v, 2, [[.int .i64 b.length, .sl ⟨11, gw, none⟩ 0 (wordsN b.length).toNat none]]⟩), (11, some ⟨gw, vw, 1, words (setW b j)⟩)] ∧ (j ≤ b.length)) ?_ ?_
  · refine ⟨_, 0, ?_, ?_, ?_, ?_, ?_, ?_, [], rfl, ?henv, ?hstore, ?hst⟩
    case henv =>
      repeat' (first | rfl | refine env_cons ?_ ?_ | refine st_cons ?_ ?_ ?_ ?_ | refine int_eq ?_ | refine bool_eq ?_ | refine rsl_eq ?_ | refine osl_eq ?_ | refine sl_eq ?_ ?_ ?_ | refine ptr_eq ?_ ?_ ?_ | refine agg_eq ?_ | refine es_cons ?_ ?_ | refine row_cons ?_ ?_)
      all_goals (first | (simp; done) | omega | (simp; omega))
    case hstore =>
      repeat' (first | rfl | refine env_cons ?_ ?_ | refine st_cons ?_ ?_ ?_ ?_ | refine int_eq ?_ | refine bool_eq ?_ | refine rsl_eq ?_ | refine osl_eq ?_ | refine sl_eq ?_ ?_ ?_ | refine ptr_eq ?_ ?_ ?_ | refine agg_eq ?_ | refine es_cons ?_ ?_ | refine row_cons ?_ ?_)
      all_goals simp [setW, words]
    case hst =>
      first | trivial | omega | (simp; done) | (simp; omega)
  rintro mm ee ss kk ⟨j, g, v, gw, vw, g2, v2, c2, rfl, rfl, rfl, hI⟩
  generalize hQl1 : thenQ _ _ = Ql1
  refine AW.seq fun K5 hK5 => ?_
  refine AW.seq fun K6 hK6 => ?_
  -- region 3
  refine AW.regionK 0 (fun _ => none) [0, 2, 3, 4, 16] [2, 3, 11] ?_
  simp only [go_sem, reduceIte, reduceCtorEq, Nat.reduceAdd, Nat.reduceMul, Nat.reduceEqDiff, Nat.reduceLT, Nat.reduceLeDiff, Nat.reduceSub, Nat.reducePow, Nat.reduceBEq, Int.reduceToNat, List.reduceReplicate]
  repeat with_reducible refine cj ?_ ?_
  all_goals try first | omega
  refine hK6 _ _ _ ?_; clear hK6
  -- cond 1
  refine AW.cond rfl (by simp only [go_sem, reduceIte, reduceCtorEq, Nat.reduceAdd, Nat.reduceMul, Nat.reduceEqDiff, Nat.reduceLT, Nat.reduceLeDiff, Nat.reduceSub, Nat.reducePow, Nat.reduceBEq, Int.reduceToNat, List.reduceReplicate]) ?_ ?_
  · intro hb
    try simp only [hB, decide_eq_true_eq, decide_eq_false_iff_not] at hb
    have hgb := bools_getD (l := b) (i := j) (by omega)
    have hwl := setW_len b j
    have hd := div64_rng (i := (j : Int)) (n := b.length) (by omega) (by omega)
    have hgw := words_getD (l := setW b j) (i := ((j : Int).tdiv 64).toNat) (by omega)
    have hsu := setW_succ b j
    refine AW.skip ?_
    refine hK5 _ _ _ ?_; clear hK5
    refine AW.seq fun K7 hK7 => ?_
    refine AW.block ?_
    refine AW.seq fun K8 hK8 => ?_
    -- region 5
    refine AW.regionK 0 (fun _ => none) [0, 2, 3, 4, 22] [2, 3, 11] ?_
    simp only [go_sem, reduceIte, reduceCtorEq, Nat.reduceAdd, Nat.reduceMul, Nat.reduceEqDiff, Nat.reduceLT, Nat.reduceLeDiff, Nat.reduceSub, Nat.reducePow, Nat.reduceBEq, Int.reduceToNat, List.reduceReplicate, hgb]
    repeat with_reducible refine cj ?_ ?_
    all_goals try first | omega
    refine hK8 _ _ _ ?_; clear hK8
    -- cond 2
    refine AW.cond rfl (by simp only [go_sem, reduceIte, reduceCtorEq, Nat.reduceAdd, Nat.reduceMul, Nat.reduceEqDiff, Nat.reduceLT, Nat.reduceLeDiff, Nat.reduceSub, Nat.reducePow, Nat.reduceBEq, Int.reduceToNat, List.reduceReplicate]) ?_ ?_
    · intro hb
      try simp only [hB, decide_eq_true_eq, decide_eq_false_iff_not] at hb
      rw [if_pos hb] at hsu
      -- region 6
      refine AW.regionD mixed 0 (fun _ => none) [0, 2, 3, 4] [2, 3, 11] ?_
      simp only [go_sem, reduceIte, reduceCtorEq, Nat.reduceAdd, Nat.reduceMul, Nat.reduceEqDiff, Nat.reduceLT, Nat.reduceLeDiff, Nat.reduceSub, Nat.reducePow, Nat.reduceBEq, Int.reduceToNat, List.reduceReplicate, hgw, hwl]
      repeat with_reducible refine cj ?_ ?_
      all_goals try first | omega | exact chk (by kernel_rfl)
      refine hK7 _ _ _ ?_; clear hK7
      -- region 4
      refine AW.regionK 0 (fun _ => none) [0, 2, 3, 4] [2, 3, 11] ?_
      simp only [go_sem, reduceIte, reduceCtorEq, Nat.reduceAdd, Nat.reduceMul, Nat.reduceEqDiff, Nat.reduceLT, Nat.reduceLeDiff, Nat.reduceSub, Nat.reducePow, Nat.reduceBEq, Int.reduceToNat, List.reduceReplicate]
      repeat with_reducible refine cj ?_ ?_
      all_goals try first | omega
      rw [← hQl1]
      change Exists _
      refine ⟨_, ?hm, j + 1, ?_, ?_, ?_, ?_, ?_, ?_, [], rfl, ?henv, ?hstore, ?hst⟩
      case henv =>
        repeat' (first | rfl | refine env_cons ?_ ?_ | refine st_cons ?_ ?_ ?_ ?_ | refine int_eq ?_ | refine bool_eq ?_ | refine rsl_eq ?_ | refine osl_eq ?_ | refine sl_eq ?_ ?_ ?_ | refine ptr_eq ?_ ?_ ?_ | refine agg_eq ?_ | refine es_cons ?_ ?_ | refine row_cons ?_ ?_)
        all_goals (first | (simp; done) | omega | (simp; omega))
      case hstore =>
        repeat' (first | rfl | refine env_cons ?_ ?_ | refine st_cons ?_ ?_ ?_ ?_ | refine int_eq ?_ | refine bool_eq ?_ | refine rsl_eq ?_ | refine osl_eq ?_ | refine sl_eq ?_ ?_ ?_ | refine ptr_eq ?_ ?_ ?_ | refine agg_eq ?_ | refine es_cons ?_ ?_ | refine row_cons ?_ ?_)
        all_goals (rw [hsu]; try simp [setBit])
      case hst =>
        first | trivial | omega | (simp; done) | (simp; omega)
      case hm => omega
    · intro hb
      try simp only [hB, decide_eq_true_eq, decide_eq_false_iff_not] at hb
      rw [if_neg (by rw [hb]; simp)] at hsu
      refine AW.skip ?_
      refine hK7 _ _ _ ?_; clear hK7
      -- region 4
      refine AW.regionK 0 (fun _ => none) [0, 2, 3, 4] [2, 3, 11] ?_
      simp only [go_sem, reduceIte, reduceCtorEq, Nat.reduceAdd, Nat.reduceMul, Nat.reduceEqDiff, Nat.reduceLT, Nat.reduceLeDiff, Nat.reduceSub, Nat.reducePow, Nat.reduceBEq, Int.reduceToNat, List.reduceReplicate]
      repeat with_reducible refine cj ?_ ?_
      all_goals try first | omega
      rw [← hQl1]
      change Exists _
      refine ⟨_, ?hm, j + 1, ?_, ?_, ?_, ?_, ?_, ?_, [], rfl, ?henv, ?hstore, ?hst⟩
      case henv =>
        repeat' (first | rfl | refine env_cons ?_ ?_ | refine st_cons ?_ ?_ ?_ ?_ | refine int_eq ?_ | refine bool_eq ?_ | refine rsl_eq ?_ | refine osl_eq ?_ | refine sl_eq ?_ ?_ ?_ | refine ptr_eq ?_ ?_ ?_ | refine agg_eq ?_ | refine es_cons ?_ ?_ | refine row_cons ?_ ?_)
        all_goals (first | (simp; done) | omega | (simp; omega))
      case hstore =>
        repeat' (first | rfl | refine env_cons ?_ ?_ | refine st_cons ?_ ?_ ?_ ?_ | refine int_eq ?_ | refine bool_eq ?_ | refine rsl_eq ?_ | refine osl_eq ?_ | refine sl_eq ?_ ?_ ?_ | refine ptr_eq ?_ ?_ ?_ | refine agg_eq ?_ | refine es_cons ?_ ?_ | refine row_cons ?_ ?_)
        all_goals (rw [hsu]; try simp [setBit])
      case hst =>
        first | trivial | omega | (simp; done) | (simp; omega)
      case hm => omega
  · intro hb
    try simp only [hB, decide_eq_true_eq, decide_eq_false_iff_not] at hb
    refine AW.keep [2, 3] [2, 3, 11] ?_
    try simp only [go_sem, reduceIte, reduceCtorEq, Nat.reduceAdd, Nat.reduceMul, Nat.reduceEqDiff, Nat.reduceLT, Nat.reduceLeDiff, Nat.reduceSub, Nat.reducePow, Nat.reduceBEq, Int.reduceToNat, List.reduceReplicate]
    refine AW.exit ?_
    rw [← hQl1]
    refine hK3 _ _ _ ?_; clear hK3
    refine AW.seq fun K9 hK9 => ?_
    -- region 7
    refine AW.regionK 0 (fun _ => none) [2] [2, 11] ?_
    simp only [go_sem, reduceIte, reduceCtorEq, Nat.reduceAdd, Nat.reduceMul, Nat.reduceEqDiff, Nat.reduceLT, Nat.reduceLeDiff, Nat.reduceSub, Nat.reducePow, Nat.reduceBEq, Int.reduceToNat, List.reduceReplicate]
    repeat with_reducible refine cj ?_ ?_
    all_goals try first | omega
    refine hK9 _ _ _ ?_; clear hK9
    refine AW.ret ?_
    rw [← hQr]
    simp only [go_sem, reduceIte, reduceCtorEq, Nat.reduceAdd, Nat.reduceMul, Nat.reduceEqDiff, Nat.reduceLT, Nat.reduceLeDiff, Nat.reduceSub, Nat.reducePow, Nat.reduceBEq, Int.reduceToNat, List.reduceReplicate]
    have hj : j = b.length := by omega
    subst hj
    rw [List.take_of_length_le (by rw [setW_len]; exact Nat.le_refl _)]
    exact Wk.refl _
theorem none_r (N : Int) (W : List (List AV)) (hW : W.length ≤ 9223372036854775807) : Reads Try.prog 19 false [.agg [.int .i64 N, .rsl 1 W]] (.bool (decide (N = 0) && decide (W.length = 0))) := by
  refine Reads.body (rs := [.tmp 2]) Try.func19 rfl Try.ntmps19 rfl (by simp) ?_
  generalize hQr : retQ _ _ _ = Qr
  refine AW.seq fun K1 hK1 => ?_
  -- region 0
  refine AW.regionK 0 (fun _ => none) [1] [1] ?_
  simp only [go_sem, reduceIte, reduceCtorEq, Nat.reduceAdd, Nat.reduceMul, Nat.reduceEqDiff, Nat.reduceLT, Nat.reduceLeDiff, Nat.reduceSub, Nat.reducePow, Nat.reduceBEq, Int.reduceToNat, List.reduceReplicate]
  repeat with_reducible refine cj ?_ ?_
  all_goals try first | omega
  refine hK1 _ _ _ ?_; clear hK1
  refine AW.seq fun K2 hK2 => ?_
  -- region 1
  refine AW.regionK 0 (fun _ => none) [2] [] ?_
  simp only [go_sem, reduceIte, reduceCtorEq, Nat.reduceAdd, Nat.reduceMul, Nat.reduceEqDiff, Nat.reduceLT, Nat.reduceLeDiff, Nat.reduceSub, Nat.reducePow, Nat.reduceBEq, Int.reduceToNat, List.reduceReplicate]
  repeat with_reducible refine cj ?_ ?_
  all_goals try first | omega | (simp only [go_sem, reduceIte, reduceCtorEq, Nat.reduceAdd, Nat.reduceMul, Nat.reduceEqDiff, Nat.reduceLT, Nat.reduceLeDiff, Nat.reduceSub, Nat.reducePow, Nat.reduceBEq, Int.reduceToNat, List.reduceReplicate]; done) | (simp_all [go_sem]; done)
  refine hK2 _ _ _ ?_; clear hK2
  refine AW.ret ?_
  rw [← hQr]
  simp only [go_sem, reduceIte, reduceCtorEq, Nat.reduceAdd, Nat.reduceMul, Nat.reduceEqDiff, Nat.reduceLT, Nat.reduceLeDiff, Nat.reduceSub, Nat.reducePow, Nat.reduceBEq, Int.reduceToNat, List.reduceReplicate]
  exact Wk.of_eq (by simp)
theorem same_r (N M : Int) (a b : List Int) (hla : a.length ≤ 9223372036854775807) (hlb : b.length ≤ 9223372036854775807) : Reads Try.prog 21 false [.agg [.int .i64 N, .rsl 1 (words a)], .agg [.int .i64 M, .rsl 1 (words b)]] (.bool (decide (N = M) && (a == b))) := by
  refine Reads.body (rs := [.tmp 4]) Try.func21 rfl Try.ntmps21 rfl (by simp) ?_
  generalize hQr : retQ _ _ _ = Qr
  refine AW.seq fun K1 hK1 => ?_
  -- region 0
  refine AW.regionK 0 (fun _ => none) [2, 3] [2, 3] ?_
  simp only [go_sem, reduceIte, reduceCtorEq, Nat.reduceAdd, Nat.reduceMul, Nat.reduceEqDiff, Nat.reduceLT, Nat.reduceLeDiff, Nat.reduceSub, Nat.reducePow, Nat.reduceBEq, Int.reduceToNat, List.reduceReplicate]
  repeat with_reducible refine cj ?_ ?_
  all_goals try first | omega
  refine hK1 _ _ _ ?_; clear hK1
  refine AW.seq fun K2 hK2 => ?_
  refine AW.seq fun K3 hK3 => ?_
  -- region 1
  refine AW.regionK 0 (fun _ => none) [2, 3, 19] [2, 3] ?_
  simp only [go_sem, reduceIte, reduceCtorEq, Nat.reduceAdd, Nat.reduceMul, Nat.reduceEqDiff, Nat.reduceLT, Nat.reduceLeDiff, Nat.reduceSub, Nat.reducePow, Nat.reduceBEq, Int.reduceToNat, List.reduceReplicate]
  repeat with_reducible refine cj ?_ ?_
  all_goals try first | omega | (simp only [go_sem, reduceIte, reduceCtorEq, Nat.reduceAdd, Nat.reduceMul, Nat.reduceEqDiff, Nat.reduceLT, Nat.reduceLeDiff, Nat.reduceSub, Nat.reducePow, Nat.reduceBEq, Int.reduceToNat, List.reduceReplicate]; done) | (simp_all [go_sem]; done)
  refine hK3 _ _ _ ?_; clear hK3
  -- cond 1
  refine AW.cond rfl (by simp only [go_sem, reduceIte, reduceCtorEq, Nat.reduceAdd, Nat.reduceMul, Nat.reduceEqDiff, Nat.reduceLT, Nat.reduceLeDiff, Nat.reduceSub, Nat.reducePow, Nat.reduceBEq, Int.reduceToNat, List.reduceReplicate]) ?_ ?_
  · intro hb
    try simp only [hB, decide_eq_true_eq, decide_eq_false_iff_not] at hb
    refine AW.seq fun K4 hK4 => ?_
    -- region 2
    refine AW.regionK 0 (fun _ => none) [4] [] ?_
    simp only [go_sem, reduceIte, reduceCtorEq, Nat.reduceAdd, Nat.reduceMul, Nat.reduceEqDiff, Nat.reduceLT, Nat.reduceLeDiff, Nat.reduceSub, Nat.reducePow, Nat.reduceBEq, Int.reduceToNat, List.reduceReplicate]
    repeat with_reducible refine cj ?_ ?_
    all_goals try first | omega
    refine hK4 _ _ _ ?_; clear hK4
    refine AW.ret ?_
    rw [← hQr]
    simp only [go_sem, reduceIte, reduceCtorEq, Nat.reduceAdd, Nat.reduceMul, Nat.reduceEqDiff, Nat.reduceLT, Nat.reduceLeDiff, Nat.reduceSub, Nat.reducePow, Nat.reduceBEq, Int.reduceToNat, List.reduceReplicate]
    exact Wk.of_eq (by rcases hb with hb | hb; simp [hb]; rw [eqL_len (by omega)]; simp)
  · intro hb
    try simp only [hB, decide_eq_true_eq, decide_eq_false_iff_not] at hb
    have hlen : a.length = b.length := by omega
    refine AW.skip ?_
    refine hK2 _ _ _ ?_; clear hK2
    refine AW.seq fun K5 hK5 => ?_
    refine AW.seq fun K6 hK6 => ?_
    -- region 3
    refine AW.regionK 0 (fun _ => none) [2, 3, 5] [2, 3] ?_
    simp only [go_sem, reduceIte, reduceCtorEq, Nat.reduceAdd, Nat.reduceMul, Nat.reduceEqDiff, Nat.reduceLT, Nat.reduceLeDiff, Nat.reduceSub, Nat.reducePow, Nat.reduceBEq, Int.reduceToNat, List.reduceReplicate]
    repeat with_reducible refine cj ?_ ?_
    all_goals try first | omega
    refine hK6 _ _ _ ?_; clear hK6
    refine AW.block ?_
    -- loop 1
    refine AW.loopE (fun mm ee ss kk => ∃ (j g2 v2 g3 v3 : Nat), a.length - j = mm ∧ ee = [(2, .ptr ⟨2, g2, none⟩ 0 0), (3, .ptr ⟨3, g3, none⟩ 0 0), (5, .int .i64 (j : Nat))] ∧ ss = [(2, some ⟨g2, v2, 2, [[.int .i64 N, .rsl 1 (words a)]]⟩), (3, some ⟨g3, v3, 2, [[.int .i64 M, .rsl 1 (words b)]]⟩)] ∧ (j ≤ a.length ∧ a.take j = b.take j)) ?_ ?_
    · refine ⟨_, 0, ?_, ?_, ?_, ?_, rfl, ?henv, ?hstore, ?hst⟩
      case henv =>
        repeat' (first | rfl | refine env_cons ?_ ?_ | refine st_cons ?_ ?_ ?_ ?_ | refine int_eq ?_ | refine bool_eq ?_ | refine rsl_eq ?_ | refine osl_eq ?_ | refine sl_eq ?_ ?_ ?_ | refine ptr_eq ?_ ?_ ?_ | refine agg_eq ?_ | refine es_cons ?_ ?_ | refine row_cons ?_ ?_)
        all_goals (first | (simp; done) | omega | (simp; omega))
      case hstore =>
        repeat' (first | rfl | refine env_cons ?_ ?_ | refine st_cons ?_ ?_ ?_ ?_ | refine int_eq ?_ | refine bool_eq ?_ | refine rsl_eq ?_ | refine osl_eq ?_ | refine sl_eq ?_ ?_ ?_ | refine ptr_eq ?_ ?_ ?_ | refine agg_eq ?_ | refine es_cons ?_ ?_ | refine row_cons ?_ ?_)
        all_goals (first | (simp; done) | omega | (simp; omega))
      case hst =>
        first | trivial | omega | (simp; done) | (simp; omega)
    rintro mm ee ss kk ⟨j, g2, v2, g3, v3, rfl, rfl, rfl, hI⟩
    generalize hQl1 : thenQ _ _ = Ql1
    obtain ⟨hj, hall⟩ := hI
    refine AW.seq fun K7 hK7 => ?_
    refine AW.seq fun K8 hK8 => ?_
    -- region 4
    refine AW.regionK 0 (fun _ => none) [2, 3, 5, 24] [2, 3] ?_
    simp only [go_sem, reduceIte, reduceCtorEq, Nat.reduceAdd, Nat.reduceMul, Nat.reduceEqDiff, Nat.reduceLT, Nat.reduceLeDiff, Nat.reduceSub, Nat.reducePow, Nat.reduceBEq, Int.reduceToNat, List.reduceReplicate]
    repeat with_reducible refine cj ?_ ?_
    all_goals try first | omega
    refine hK8 _ _ _ ?_; clear hK8
    -- cond 2
    refine AW.cond rfl (by simp only [go_sem, reduceIte, reduceCtorEq, Nat.reduceAdd, Nat.reduceMul, Nat.reduceEqDiff, Nat.reduceLT, Nat.reduceLeDiff, Nat.reduceSub, Nat.reducePow, Nat.reduceBEq, Int.reduceToNat, List.reduceReplicate]) ?_ ?_
    · intro hb
      try simp only [hB, decide_eq_true_eq, decide_eq_false_iff_not] at hb
      obtain ⟨x, hx⟩ := getI (l := a) (j := j) (by omega)
      obtain ⟨y, hy⟩ := getI (l := b) (j := j) (by omega)
      have hgx := words_get hx
      have hgy := words_get hy
      refine AW.skip ?_
      refine hK7 _ _ _ ?_; clear hK7
      refine AW.seq fun K9 hK9 => ?_
      refine AW.block ?_
      refine AW.seq fun K10 hK10 => ?_
      -- region 6
      refine AW.regionD mixed 0 (fun _ => none) [2, 3, 5, 37] [2, 3] ?_
      simp only [go_sem, reduceIte, reduceCtorEq, Nat.reduceAdd, Nat.reduceMul, Nat.reduceEqDiff, Nat.reduceLT, Nat.reduceLeDiff, Nat.reduceSub, Nat.reducePow, Nat.reduceBEq, Int.reduceToNat, List.reduceReplicate, hgx, hgy]
      repeat with_reducible refine cj ?_ ?_
      all_goals try first | omega | exact chk (by kernel_rfl)
      refine hK10 _ _ _ ?_; clear hK10
      -- cond 3
      refine AW.cond rfl (by simp only [go_sem, reduceIte, reduceCtorEq, Nat.reduceAdd, Nat.reduceMul, Nat.reduceEqDiff, Nat.reduceLT, Nat.reduceLeDiff, Nat.reduceSub, Nat.reducePow, Nat.reduceBEq, Int.reduceToNat, List.reduceReplicate]) ?_ ?_
      · intro hb
        try simp only [hB, decide_eq_true_eq, decide_eq_false_iff_not] at hb
        refine AW.seq fun K11 hK11 => ?_
        -- region 7
        refine AW.regionK 0 (fun _ => none) [4] [] ?_
        simp only [go_sem, reduceIte, reduceCtorEq, Nat.reduceAdd, Nat.reduceMul, Nat.reduceEqDiff, Nat.reduceLT, Nat.reduceLeDiff, Nat.reduceSub, Nat.reducePow, Nat.reduceBEq, Int.reduceToNat, List.reduceReplicate]
        repeat with_reducible refine cj ?_ ?_
        all_goals try first | omega
        refine hK11 _ _ _ ?_; clear hK11
        refine AW.ret ?_
        rw [← hQl1]
        rw [← hQr]
        simp only [go_sem, reduceIte, reduceCtorEq, Nat.reduceAdd, Nat.reduceMul, Nat.reduceEqDiff, Nat.reduceLT, Nat.reduceLeDiff, Nat.reduceSub, Nat.reducePow, Nat.reduceBEq, Int.reduceToNat, List.reduceReplicate]
        exact Wk.of_eq (by rw [eqL_ne hx hy hb]; simp)
      · intro hb
        try simp only [hB, decide_eq_true_eq, decide_eq_false_iff_not] at hb
        have hxy : x = y := by omega
        subst hxy
        refine AW.skip ?_
        refine hK9 _ _ _ ?_; clear hK9
        -- region 5
        refine AW.regionK 0 (fun _ => none) [2, 3, 5] [2, 3] ?_
        simp only [go_sem, reduceIte, reduceCtorEq, Nat.reduceAdd, Nat.reduceMul, Nat.reduceEqDiff, Nat.reduceLT, Nat.reduceLeDiff, Nat.reduceSub, Nat.reducePow, Nat.reduceBEq, Int.reduceToNat, List.reduceReplicate]
        repeat with_reducible refine cj ?_ ?_
        all_goals try first | omega
        rw [← hQl1]
        change Exists _
        refine ⟨_, ?hm, j + 1, ?_, ?_, ?_, ?_, rfl, ?henv, ?hstore, ?hst⟩
        case henv =>
          repeat' (first | rfl | refine env_cons ?_ ?_ | refine st_cons ?_ ?_ ?_ ?_ | refine int_eq ?_ | refine bool_eq ?_ | refine rsl_eq ?_ | refine osl_eq ?_ | refine sl_eq ?_ ?_ ?_ | refine ptr_eq ?_ ?_ ?_ | refine agg_eq ?_ | refine es_cons ?_ ?_ | refine row_cons ?_ ?_)
          all_goals (first | (simp; done) | omega | (simp; omega))
        case hstore =>
          repeat' (first | rfl | refine env_cons ?_ ?_ | refine st_cons ?_ ?_ ?_ ?_ | refine int_eq ?_ | refine bool_eq ?_ | refine rsl_eq ?_ | refine osl_eq ?_ | refine sl_eq ?_ ?_ ?_ | refine ptr_eq ?_ ?_ ?_ | refine agg_eq ?_ | refine es_cons ?_ ?_ | refine row_cons ?_ ?_)
          all_goals (first | (simp; done) | omega | (simp; omega))
        case hst =>
          exact ⟨by omega, take_succ_eq hx hy hall⟩
        case hm => omega
    · intro hb
      try simp only [hB, decide_eq_true_eq, decide_eq_false_iff_not] at hb
      refine AW.keep [] [] ?_
      try simp only [go_sem, reduceIte, reduceCtorEq, Nat.reduceAdd, Nat.reduceMul, Nat.reduceEqDiff, Nat.reduceLT, Nat.reduceLeDiff, Nat.reduceSub, Nat.reducePow, Nat.reduceBEq, Int.reduceToNat, List.reduceReplicate]
      refine AW.exit ?_
      rw [← hQl1]
      refine hK5 _ _ _ ?_; clear hK5
      refine AW.seq fun K12 hK12 => ?_
      -- region 8
      refine AW.regionK 0 (fun _ => none) [4] [] ?_
      simp only [go_sem, reduceIte, reduceCtorEq, Nat.reduceAdd, Nat.reduceMul, Nat.reduceEqDiff, Nat.reduceLT, Nat.reduceLeDiff, Nat.reduceSub, Nat.reducePow, Nat.reduceBEq, Int.reduceToNat, List.reduceReplicate]
      repeat with_reducible refine cj ?_ ?_
      all_goals try first | omega
      refine hK12 _ _ _ ?_; clear hK12
      refine AW.ret ?_
      rw [← hQr]
      simp only [go_sem, reduceIte, reduceCtorEq, Nat.reduceAdd, Nat.reduceMul, Nat.reduceEqDiff, Nat.reduceLT, Nat.reduceLeDiff, Nat.reduceSub, Nat.reducePow, Nat.reduceBEq, Int.reduceToNat, List.reduceReplicate]
      exact Wk.of_eq (by rw [List.take_of_length_le (by omega), List.take_of_length_le (by omega)] at hall; rw [hall]; simp; omega)
theorem has_r (N : Int) (W : List Int) (i : Int) (h0 : 0 ≤ i) (h1 : i.tdiv 64 < W.length) (hl : W.length ≤ 9223372036854775807) : Reads Try.prog 46 false [.agg [.int .i64 N, .rsl 1 (words W)], .int .i64 i] (.bool (hasW W i)) := by
  have hd := div64_rng (i := i) (n := i + 1) h0 (by omega)
  have hgw := words_getD (l := W) (i := (i.tdiv 64).toNat) (by omega)
  refine Reads.body (rs := [.tmp 4]) Try.func46 rfl Try.ntmps46 rfl (by simp) ?_
  generalize hQr : retQ _ _ _ = Qr
  refine AW.seq fun K1 hK1 => ?_
  -- region 0
  refine AW.regionK 0 (fun _ => none) [1, 2] [2] ?_
  simp only [go_sem, reduceIte, reduceCtorEq, Nat.reduceAdd, Nat.reduceMul, Nat.reduceEqDiff, Nat.reduceLT, Nat.reduceLeDiff, Nat.reduceSub, Nat.reducePow, Nat.reduceBEq, Int.reduceToNat, List.reduceReplicate]
  repeat with_reducible refine cj ?_ ?_
  all_goals try first | omega
  refine hK1 _ _ _ ?_; clear hK1
  refine AW.seq fun K2 hK2 => ?_
  -- region 1
  refine AW.regionK 0 (fun _ => none) [4] [] ?_
  simp only [go_sem, reduceIte, reduceCtorEq, Nat.reduceAdd, Nat.reduceMul, Nat.reduceEqDiff, Nat.reduceLT, Nat.reduceLeDiff, Nat.reduceSub, Nat.reducePow, Nat.reduceBEq, Int.reduceToNat, List.reduceReplicate, hgw]
  repeat with_reducible refine cj ?_ ?_
  all_goals try first | omega
  refine hK2 _ _ _ ?_; clear hK2
  refine AW.ret ?_
  rw [← hQr]
  simp only [go_sem, reduceIte, reduceCtorEq, Nat.reduceAdd, Nat.reduceMul, Nat.reduceEqDiff, Nat.reduceLT, Nat.reduceLeDiff, Nat.reduceSub, Nat.reducePow, Nat.reduceBEq, Int.reduceToNat, List.reduceReplicate]
  exact Wk.refl _
theorem cap_r (n : Net) (b : List Bool) (hv : validB n = true) (hb : b.length = n.N.toNat) : Reads Try.prog 22 false [netV n, .agg [.int .i64 n.N, .rsl 1 (words (setW b b.length))]] (.int .i64 (capAt n.E (hasW (setW b b.length)) n.E.length)) := by
  obtain ⟨hN1, hN2, hE⟩ := valid_size hv
  have hcb := fun j (hj : j ≤ n.E.length) => capAt_bnd (E := n.E) (S := hasW (setW b b.length)) (B := 1125899906842624) (fun i hi => by have := valid_edge hv (eAt_get hi); omega) j hj
  have hwl := setW_len b b.length
  have hwn := wordsN_rng (n := (b.length : Int)) (by omega)
  have hbn : (b.length : Int) = n.N := by omega
  have hhas := fun (i : Int) (h0 : 0 ≤ i) (h1 : i < n.N) => has_r n.N (setW b b.length) i h0 (by have := div64_rng (i := i) (n := b.length) h0 (by omega); omega) (by omega)
  unfold netV
  generalize hasW (setW b b.length) = S at *
  generalize hW : setW b b.length = W at *
  refine Reads.body (rs := [.tmp 4]) Try.func22 rfl Try.ntmps22 rfl (by simp) ?_
  generalize hQr : retQ _ _ _ = Qr
  refine AW.seq fun K1 hK1 => ?_
  -- region 0
  refine AW.regionK 0 (fun _ => none) [2, 3] [2, 3] ?_
  simp only [go_sem, reduceIte, reduceCtorEq, Nat.reduceAdd, Nat.reduceMul, Nat.reduceEqDiff, Nat.reduceLT, Nat.reduceLeDiff, Nat.reduceSub, Nat.reducePow, Nat.reduceBEq, Int.reduceToNat, List.reduceReplicate]
  repeat with_reducible refine cj ?_ ?_
  all_goals try first | omega
  refine hK1 _ _ _ ?_; clear hK1
  refine AW.seq fun K2 hK2 => ?_
  -- region 1
  refine AW.regionK 0 (fun _ => none) [2, 3, 5] [2, 3] ?_
  simp only [go_sem, reduceIte, reduceCtorEq, Nat.reduceAdd, Nat.reduceMul, Nat.reduceEqDiff, Nat.reduceLT, Nat.reduceLeDiff, Nat.reduceSub, Nat.reducePow, Nat.reduceBEq, Int.reduceToNat, List.reduceReplicate]
  repeat with_reducible refine cj ?_ ?_
  all_goals try first | omega
  refine hK2 _ _ _ ?_; clear hK2
  refine AW.seq fun K3 hK3 => ?_
  refine AW.seq fun K4 hK4 => ?_
  -- region 2
  refine AW.regionK 0 (fun _ => none) [2, 3, 5, 6] [2, 3] ?_
  simp only [go_sem, reduceIte, reduceCtorEq, Nat.reduceAdd, Nat.reduceMul, Nat.reduceEqDiff, Nat.reduceLT, Nat.reduceLeDiff, Nat.reduceSub, Nat.reducePow, Nat.reduceBEq, Int.reduceToNat, List.reduceReplicate]
  repeat with_reducible refine cj ?_ ?_
  all_goals try first | omega
  refine hK4 _ _ _ ?_; clear hK4
  refine AW.block ?_
  -- loop 1
  refine AW.loopE (fun mm ee ss kk => ∃ (j g2 v2 g3 v3 : Nat), n.E.length - j = mm ∧ ee = [(2, .ptr ⟨2, g2, none⟩ 0 0), (3, .ptr ⟨3, g3, none⟩ 0 0), (5, .int .i64 (capAt n.E S j)), (6, .int .i64 (j : Nat))] ∧ ss = [(2, some ⟨g2, v2, 2, [[.int .i64 n.N, .rsl 3 (n.E.map edgeV)]]⟩), (3, some ⟨g3, v3, 2, [[.int .i64 n.N, .rsl 1 (words W)]]⟩)] ∧ (j ≤ n.E.length)) ?_ ?_
  · refine ⟨_, 0, ?_, ?_, ?_, ?_, rfl, ?henv, ?hstore, ?hst⟩
    case henv =>
      repeat' (first | rfl | refine env_cons ?_ ?_ | refine st_cons ?_ ?_ ?_ ?_ | refine int_eq ?_ | refine bool_eq ?_ | refine rsl_eq ?_ | refine osl_eq ?_ | refine sl_eq ?_ ?_ ?_ | refine ptr_eq ?_ ?_ ?_ | refine agg_eq ?_ | refine es_cons ?_ ?_ | refine row_cons ?_ ?_)
      all_goals (first | (simp; done) | omega | (simp; omega))
    case hstore =>
      repeat' (first | rfl | refine env_cons ?_ ?_ | refine st_cons ?_ ?_ ?_ ?_ | refine int_eq ?_ | refine bool_eq ?_ | refine rsl_eq ?_ | refine osl_eq ?_ | refine sl_eq ?_ ?_ ?_ | refine ptr_eq ?_ ?_ ?_ | refine agg_eq ?_ | refine es_cons ?_ ?_ | refine row_cons ?_ ?_)
      all_goals (first | (simp; done) | omega | (simp; omega))
    case hst =>
      first | trivial | omega | (simp; done) | (simp; omega)
  rintro mm ee ss kk ⟨j, g2, v2, g3, v3, rfl, rfl, rfl, hI⟩
  generalize hQl1 : thenQ _ _ = Ql1
  refine AW.seq fun K5 hK5 => ?_
  refine AW.seq fun K6 hK6 => ?_
  -- region 3
  refine AW.regionK 0 (fun _ => none) [2, 3, 5, 6, 11] [2, 3] ?_
  simp only [go_sem, reduceIte, reduceCtorEq, Nat.reduceAdd, Nat.reduceMul, Nat.reduceEqDiff, Nat.reduceLT, Nat.reduceLeDiff, Nat.reduceSub, Nat.reducePow, Nat.reduceBEq, Int.reduceToNat, List.reduceReplicate]
  repeat with_reducible refine cj ?_ ?_
  all_goals try first | omega
  refine hK6 _ _ _ ?_; clear hK6
  -- cond 1
  refine AW.cond rfl (by simp only [go_sem, reduceIte, reduceCtorEq, Nat.reduceAdd, Nat.reduceMul, Nat.reduceEqDiff, Nat.reduceLT, Nat.reduceLeDiff, Nat.reduceSub, Nat.reducePow, Nat.reduceBEq, Int.reduceToNat, List.reduceReplicate]) ?_ ?_
  · intro hb
    try simp only [hB, decide_eq_true_eq, decide_eq_false_iff_not] at hb
    obtain ⟨x, hx⟩ := getI (l := n.E) (j := j) (by omega)
    have hxv := getV (f := edgeV) hx
    have hea := eAt_of hx
    have hxr := valid_edge hv hx
    have hcs : capAt n.E S (j + 1) = capAt n.E S j + if S (eAt n.E j).fr = true ∧ S (eAt n.E j).to = false then (eAt n.E j).cap else 0 := rfl
    have hb0 := hcb j (by omega)
    rw [hea] at hcs
    have hj2 : (j : Int) < 2000 := by omega
    generalize capAt n.E S j = cq at *
    refine AW.skip ?_
    refine hK5 _ _ _ ?_; clear hK5
    refine AW.seq fun K7 hK7 => ?_
    refine AW.block ?_
    refine AW.seq fun K8 hK8 => ?_
    -- region 5
    refine AW.regionD mixed 0 (fun i => if i = 7 then some (.reads false (.bool (S x.fr))) else if i = 16 then some (.reads false (.bool (S x.to))) else none) [2, 3, 5, 6, 32] [2, 3] ?_
    simp only [go_sem, reduceIte, reduceCtorEq, Nat.reduceAdd, Nat.reduceMul, Nat.reduceEqDiff, Nat.reduceLT, Nat.reduceLeDiff, Nat.reduceSub, Nat.reducePow, Nat.reduceBEq, Int.reduceToNat, List.reduceReplicate, hxv, edgeV]
    repeat with_reducible refine cj ?_ ?_
    all_goals try first | (first | exact hhas x.fr (by omega) (by omega) | exact hhas x.to (by omega) (by omega)) | (intros; (repeat' apply And.intro) <;> first | assumption | (first | exact hhas x.fr (by omega) (by omega) | exact hhas x.to (by omega) (by omega))) | omega | exact chk (by kernel_rfl) | exact ent (by kernel_rfl) | (simp only [go_sem, reduceIte, reduceCtorEq, Nat.reduceAdd, Nat.reduceMul, Nat.reduceEqDiff, Nat.reduceLT, Nat.reduceLeDiff, Nat.reduceSub, Nat.reducePow, Nat.reduceBEq, Int.reduceToNat, List.reduceReplicate, hxv, edgeV]; done) | (simp_all [go_sem]; done)
    refine hK8 _ _ _ ?_; clear hK8
    -- cond 2
    refine AW.cond rfl (by simp only [go_sem, reduceIte, reduceCtorEq, Nat.reduceAdd, Nat.reduceMul, Nat.reduceEqDiff, Nat.reduceLT, Nat.reduceLeDiff, Nat.reduceSub, Nat.reducePow, Nat.reduceBEq, Int.reduceToNat, List.reduceReplicate]) ?_ ?_
    · intro hb
      try simp only [hB, decide_eq_true_eq, decide_eq_false_iff_not] at hb
      rw [if_pos hb] at hcs
      -- region 6
      refine AW.regionK 0 (fun _ => none) [2, 3, 5, 6] [2, 3] ?_
      simp only [go_sem, reduceIte, reduceCtorEq, Nat.reduceAdd, Nat.reduceMul, Nat.reduceEqDiff, Nat.reduceLT, Nat.reduceLeDiff, Nat.reduceSub, Nat.reducePow, Nat.reduceBEq, Int.reduceToNat, List.reduceReplicate, hxv, edgeV]
      repeat with_reducible refine cj ?_ ?_
      all_goals try first | omega
      refine hK7 _ _ _ ?_; clear hK7
      -- region 4
      refine AW.regionK 0 (fun _ => none) [2, 3, 5, 6] [2, 3] ?_
      simp only [go_sem, reduceIte, reduceCtorEq, Nat.reduceAdd, Nat.reduceMul, Nat.reduceEqDiff, Nat.reduceLT, Nat.reduceLeDiff, Nat.reduceSub, Nat.reducePow, Nat.reduceBEq, Int.reduceToNat, List.reduceReplicate]
      repeat with_reducible refine cj ?_ ?_
      all_goals try first | omega
      rw [← hQl1]
      change Exists _
      refine ⟨_, ?hm, j + 1, ?_, ?_, ?_, ?_, rfl, ?henv, ?hstore, ?hst⟩
      case henv =>
        repeat' (first | rfl | refine env_cons ?_ ?_ | refine st_cons ?_ ?_ ?_ ?_ | refine int_eq ?_ | refine bool_eq ?_ | refine rsl_eq ?_ | refine osl_eq ?_ | refine sl_eq ?_ ?_ ?_ | refine ptr_eq ?_ ?_ ?_ | refine agg_eq ?_ | refine es_cons ?_ ?_ | refine row_cons ?_ ?_)
        all_goals (rw [hcs]; try omega)
      case hstore =>
        repeat' (first | rfl | refine env_cons ?_ ?_ | refine st_cons ?_ ?_ ?_ ?_ | refine int_eq ?_ | refine bool_eq ?_ | refine rsl_eq ?_ | refine osl_eq ?_ | refine sl_eq ?_ ?_ ?_ | refine ptr_eq ?_ ?_ ?_ | refine agg_eq ?_ | refine es_cons ?_ ?_ | refine row_cons ?_ ?_)
        all_goals (first | (simp; done) | omega | (simp; omega))
      case hst =>
        first | trivial | omega | (simp; done) | (simp; omega)
      case hm => omega
    · intro hb
      try simp only [hB, decide_eq_true_eq, decide_eq_false_iff_not] at hb
      rw [if_neg (by rintro ⟨a1, a2⟩; rcases hb with hb | hb; rw [a1] at hb; cases hb; rw [a2] at hb; cases hb)] at hcs
      refine AW.skip ?_
      refine hK7 _ _ _ ?_; clear hK7
      -- region 4
      refine AW.regionK 0 (fun _ => none) [2, 3, 5, 6] [2, 3] ?_
      simp only [go_sem, reduceIte, reduceCtorEq, Nat.reduceAdd, Nat.reduceMul, Nat.reduceEqDiff, Nat.reduceLT, Nat.reduceLeDiff, Nat.reduceSub, Nat.reducePow, Nat.reduceBEq, Int.reduceToNat, List.reduceReplicate]
      repeat with_reducible refine cj ?_ ?_
      all_goals try first | omega
      rw [← hQl1]
      change Exists _
      refine ⟨_, ?hm, j + 1, ?_, ?_, ?_, ?_, rfl, ?henv, ?hstore, ?hst⟩
      case henv =>
        repeat' (first | rfl | refine env_cons ?_ ?_ | refine st_cons ?_ ?_ ?_ ?_ | refine int_eq ?_ | refine bool_eq ?_ | refine rsl_eq ?_ | refine osl_eq ?_ | refine sl_eq ?_ ?_ ?_ | refine ptr_eq ?_ ?_ ?_ | refine agg_eq ?_ | refine es_cons ?_ ?_ | refine row_cons ?_ ?_)
        all_goals (rw [hcs]; try omega)
      case hstore =>
        repeat' (first | rfl | refine env_cons ?_ ?_ | refine st_cons ?_ ?_ ?_ ?_ | refine int_eq ?_ | refine bool_eq ?_ | refine rsl_eq ?_ | refine osl_eq ?_ | refine sl_eq ?_ ?_ ?_ | refine ptr_eq ?_ ?_ ?_ | refine agg_eq ?_ | refine es_cons ?_ ?_ | refine row_cons ?_ ?_)
        all_goals (first | (simp; done) | omega | (simp; omega))
      case hst =>
        first | trivial | omega | (simp; done) | (simp; omega)
      case hm => omega
  · intro hb
    try simp only [hB, decide_eq_true_eq, decide_eq_false_iff_not] at hb
    refine AW.keep [5] [] ?_
    try simp only [go_sem, reduceIte, reduceCtorEq, Nat.reduceAdd, Nat.reduceMul, Nat.reduceEqDiff, Nat.reduceLT, Nat.reduceLeDiff, Nat.reduceSub, Nat.reducePow, Nat.reduceBEq, Int.reduceToNat, List.reduceReplicate]
    refine AW.exit ?_
    rw [← hQl1]
    refine hK3 _ _ _ ?_; clear hK3
    refine AW.seq fun K9 hK9 => ?_
    -- region 7
    refine AW.regionK 0 (fun _ => none) [4] [] ?_
    simp only [go_sem, reduceIte, reduceCtorEq, Nat.reduceAdd, Nat.reduceMul, Nat.reduceEqDiff, Nat.reduceLT, Nat.reduceLeDiff, Nat.reduceSub, Nat.reducePow, Nat.reduceBEq, Int.reduceToNat, List.reduceReplicate]
    repeat with_reducible refine cj ?_ ?_
    all_goals try first | omega
    refine hK9 _ _ _ ?_; clear hK9
    refine AW.ret ?_
    rw [← hQr]
    simp only [go_sem, reduceIte, reduceCtorEq, Nat.reduceAdd, Nat.reduceMul, Nat.reduceEqDiff, Nat.reduceLT, Nat.reduceLeDiff, Nat.reduceSub, Nat.reducePow, Nat.reduceBEq, Int.reduceToNat, List.reduceReplicate]
    have hj : j = n.E.length := by omega
    subst hj
    exact Wk.refl _
end Go.Proofs.F
/- The balances of all nodes. -/
namespace Go.AM
def balL (n : Net) (fl : List Int) (j : Nat) : List Int := (List.range n.N.toNat).map fun (u : Nat) => balAt n.E fl u j
theorem balL_len (n : Net) (fl : List Int) (j : Nat) : (balL n fl j).length = n.N.toNat := by simp [balL]
theorem balL_get {n : Net} {fl : List Int} {j i : Nat} (h : i < n.N.toNat) : (balL n fl j).getD i 0 = balAt n.E fl i j := by
  simp [balL, List.getD_eq_getElem?_getD, h]
theorem balL_zero (n : Net) (fl : List Int) : balL n fl 0 = List.replicate n.N.toNat 0 := by
  refine List.ext_getElem (by simp [balL]) fun i h1 h2 => by simp [balL, balAt]
theorem balL_succ {n : Net} {fl : List Int} {j : Nat} {x : Edg} (hx : eAt n.E j = x) (h0 : 0 ≤ x.fr ∧ x.fr < n.N) (h1 : 0 ≤ x.to ∧ x.to < n.N) (h2 : x.fr ≠ x.to) :
    balL n fl (j + 1) = ((balL n fl j).set x.fr.toNat ((balL n fl j).getD x.fr.toNat 0 + fl.getD j 0)).set x.to.toNat ((balL n fl j).getD x.to.toNat 0 - fl.getD j 0) := by
  have a1 := balL_get (n := n) (fl := fl) (j := j) (i := x.fr.toNat) (by omega)
  have a2 := balL_get (n := n) (fl := fl) (j := j) (i := x.to.toNat) (by omega)
  rw [Int.toNat_of_nonneg h0.1] at a1
  rw [Int.toNat_of_nonneg h1.1] at a2
  rw [a1, a2]
  refine List.ext_getElem (by simp [balL]) fun i b1 b2 => ?_
  have hi : i < n.N.toNat := by simpa [balL] using b1
  rw [List.getElem_set, List.getElem_set]
  have e : (balL n fl (j + 1))[i] = balStep n.E fl i j (balAt n.E fl i j) := by simp [balL, balAt]
  have e2 : (balL n fl j)[i]'(by rw [balL_len]; exact hi) = balAt n.E fl i j := by simp [balL]
  rw [e, e2, balStep, hx]
  by_cases c1 : x.to.toNat = i
  · have : x.to = (i : Int) := by omega
    have c3 : ¬ x.fr = (i : Int) := by omega
    rw [if_pos c1, if_neg c3, if_pos this, this]
  · have c3 : ¬ x.to = (i : Int) := by omega
    rw [if_neg c1, if_neg c3]
    by_cases c2 : x.fr.toNat = i
    · have : x.fr = (i : Int) := by omega
      rw [if_pos c2, if_pos this, this]; omega
    · have : ¬ x.fr = (i : Int) := by omega
      rw [if_neg c2, if_neg this]; omega
end Go.AM
namespace Go.AM
theorem balAt_take (E : List Edg) (fl : List Int) (v : Int) (m : Nat) : ∀ j, j ≤ m → balAt E (fl.take m) v j = balAt E fl v j
  | 0, _ => rfl
  | j + 1, h => by
    rw [balAt, balAt, balAt_take E fl v m j (by omega)]
    unfold balStep
    have : (fl.take m).getD j 0 = fl.getD j 0 := by
      rw [List.getD_eq_getElem?_getD, List.getElem?_take, if_pos (by omega), ← List.getD_eq_getElem?_getD]
    rw [this]
end Go.AM
namespace Go.Proofs.F
open Go.AM Go
set_option maxRecDepth 100000
set_option maxHeartbeats 1000000
theorem capsB_succ (E : List Edg) (fl : List Int) (j : Nat) : capsB E fl (j + 1) = (capsB E fl j && (decide (0 ≤ fl.getD j 0) && decide (fl.getD j 0 ≤ (eAt E j).cap))) := range_all_succ j
theorem capsB_false {E : List Edg} {fl : List Int} {j m : Nat} (h : j < m) (hp : fl.getD j 0 < 0 ∨ (eAt E j).cap < fl.getD j 0) : capsB E fl m = false := range_all_false h (by rcases hp with hp | hp <;> simp only [Bool.and_eq_false_iff, decide_eq_false_iff_not] <;> omega)
theorem pbal_r (n : Net) (fl : List Int) (hv : validB n = true) (hl : fl.length ≤ 9223372036854775807) :
    Reads Try.prog 59 true [netV n, .rsl 1 (ints fl)] (.tup [.rsl 1 (ints (if decide (fl.length = n.E.length) && capsB n.E fl n.E.length then balL n fl n.E.length else [])), .bool (decide (fl.length = n.E.length) && capsB n.E fl n.E.length)]) := by
  obtain ⟨hN1, hN2, hE⟩ := valid_size hv
  unfold netV
  refine Reads.bodyF (rs := [.tmp 4, .tmp 5]) Try.func59 rfl Try.ntmps59 rfl (by simp) ?_
  generalize hQr : retQ _ _ _ = Qr
  refine AW.seq fun K1 hK1 => ?_
  -- region 0
  refine AW.regionK 0 (fun _ => none) [1, 2] [2] ?_
  simp only [go_sem, reduceIte, reduceCtorEq, Nat.reduceAdd, Nat.reduceMul, Nat.reduceEqDiff, Nat.reduceLT, Nat.reduceLeDiff, Nat.reduceSub, Nat.reducePow, Nat.reduceBEq, Int.reduceToNat, List.reduceReplicate]
  repeat with_reducible refine cj ?_ ?_
  all_goals try first | omega
  refine hK1 _ _ _ ?_; clear hK1
  refine AW.seq fun K2 hK2 => ?_
  refine AW.seq fun K3 hK3 => ?_
  -- region 1
  refine AW.regionK 0 (fun _ => none) [1, 2, 14] [2] ?_
  simp only [go_sem, reduceIte, reduceCtorEq, Nat.reduceAdd, Nat.reduceMul, Nat.reduceEqDiff, Nat.reduceLT, Nat.reduceLeDiff, Nat.reduceSub, Nat.reducePow, Nat.reduceBEq, Int.reduceToNat, List.reduceReplicate]
  repeat with_reducible refine cj ?_ ?_
  all_goals try first | omega
  refine hK3 _ _ _ ?_; clear hK3
  -- cond 1
  refine AW.cond rfl (by simp only [go_sem, reduceIte, reduceCtorEq, Nat.reduceAdd, Nat.reduceMul, Nat.reduceEqDiff, Nat.reduceLT, Nat.reduceLeDiff, Nat.reduceSub, Nat.reducePow, Nat.reduceBEq, Int.reduceToNat, List.reduceReplicate]) ?_ ?_
  · intro hb
    try simp only [hB, decide_eq_true_eq, decide_eq_false_iff_not] at hb
    refine AW.seq fun K4 hK4 => ?_
    -- region 2
    refine AW.regionK 0 (fun _ => none) [4, 5] [] ?_
    simp only [go_sem, reduceIte, reduceCtorEq, Nat.reduceAdd, Nat.reduceMul, Nat.reduceEqDiff, Nat.reduceLT, Nat.reduceLeDiff, Nat.reduceSub, Nat.reducePow, Nat.reduceBEq, Int.reduceToNat, List.reduceReplicate]
    repeat with_reducible refine cj ?_ ?_
    all_goals try first | omega
    refine hK4 _ _ _ ?_; clear hK4
    refine AW.ret ?_
    rw [← hQr]
    simp only [go_sem, reduceIte, reduceCtorEq, Nat.reduceAdd, Nat.reduceMul, Nat.reduceEqDiff, Nat.reduceLT, Nat.reduceLeDiff, Nat.reduceSub, Nat.reducePow, Nat.reduceBEq, Int.reduceToNat, List.reduceReplicate]
    have hn : ¬ fl.length = n.E.length := by omega
    exact Wk.tup2 (by simp only [hn, decide_false, Bool.false_and, Bool.false_eq_true, if_false]; exact Wk.nil 1) (Wk.of_eq (by simp [hn]))
  · intro hb
    try simp only [hB, decide_eq_true_eq, decide_eq_false_iff_not] at hb
    have hlen : fl.length = n.E.length := by omega
    refine AW.skip ?_
    refine hK2 _ _ _ ?_; clear hK2
    refine AW.seq fun K5 hK5 => ?_
    -- region 3
    refine AW.regionK 0 (fun _ => none) [1, 2, 6] [2, 17] ?_
    simp only [go_sem, reduceIte, reduceCtorEq, Nat.reduceAdd, Nat.reduceMul, Nat.reduceEqDiff, Nat.reduceLT, Nat.reduceLeDiff, Nat.reduceSub, Nat.reducePow, Nat.reduceBEq, Int.reduceToNat, List.reduceReplicate]
    repeat with_reducible refine cj ?_ ?_
    all_goals try first | omega
    refine hK5 _ _ _ ?_; clear hK5
    refine AW.seq fun K6 hK6 => ?_
    refine AW.seq fun K7 hK7 => ?_
    -- region 4
    refine AW.regionK 0 (fun _ => none) [1, 6, 19, 20, 21] [17] ?_
    simp only [go_sem, reduceIte, reduceCtorEq, Nat.reduceAdd, Nat.reduceMul, Nat.reduceEqDiff, Nat.reduceLT, Nat.reduceLeDiff, Nat.reduceSub, Nat.reducePow, Nat.reduceBEq, Int.reduceToNat, List.reduceReplicate]
    repeat with_reducible refine cj ?_ ?_
    all_goals try first | omega
    refine hK7 _ _ _ ?_; clear hK7
    refine AW.block ?_
    -- loop 1
    refine AW.loopE (fun mm ee ss kk => ∃ (j g v : Nat), n.E.length - j = mm ∧ ee = [(1, .rsl 1 (ints fl)), (6, .sl ⟨17, g, none⟩ 0 n.N.toNat none), (19, .rsl 3 (n.E.map edgeV)), (20, .int .i64 n.E.length), (21, .int .i64 (j : Nat))] ∧ ss = [(17, some ⟨g, v, 1, ints (balL n fl j)⟩)] ∧ (j ≤ n.E.length ∧ capsB n.E fl j = true)) ?_ ?_
    · refine ⟨_, 0, ?_, ?_, rfl, ?henv, ?hstore, ?hst⟩
      case henv =>
        repeat' (first | rfl | refine env_cons ?_ ?_ | refine st_cons ?_ ?_ ?_ ?_ | refine int_eq ?_ | refine bool_eq ?_ | refine rsl_eq ?_ | refine osl_eq ?_ | refine sl_eq ?_ ?_ ?_ | refine ptr_eq ?_ ?_ ?_ | refine agg_eq ?_ | refine es_cons ?_ ?_ | refine row_cons ?_ ?_)
        all_goals (first | (simp; done) | omega | (simp; omega))
      case hstore =>
        repeat' (first | rfl | refine env_cons ?_ ?_ | refine st_cons ?_ ?_ ?_ ?_ | refine int_eq ?_ | refine bool_eq ?_ | refine rsl_eq ?_ | refine osl_eq ?_ | refine sl_eq ?_ ?_ ?_ | refine ptr_eq ?_ ?_ ?_ | refine agg_eq ?_ | refine es_cons ?_ ?_ | refine row_cons ?_ ?_)
        all_goals (rw [balL_zero]; simp [ints])
      case hst =>
        exact ⟨Nat.zero_le _, rfl⟩
    rintro mm ee ss kk ⟨j, g, v, rfl, rfl, rfl, hI⟩
    generalize hQl1 : thenQ _ _ = Ql1
    obtain ⟨hj, hc⟩ := hI
    refine AW.seq fun K8 hK8 => ?_
    -- region 5
    refine AW.regionK 0 (fun _ => none) [1, 6, 19, 20, 21, 22] [17] ?_
    simp only [go_sem, reduceIte, reduceCtorEq, Nat.reduceAdd, Nat.reduceMul, Nat.reduceEqDiff, Nat.reduceLT, Nat.reduceLeDiff, Nat.reduceSub, Nat.reducePow, Nat.reduceBEq, Int.reduceToNat, List.reduceReplicate]
    repeat with_reducible refine cj ?_ ?_
    all_goals try first | omega
    refine hK8 _ _ _ ?_; clear hK8
    refine AW.seq fun K9 hK9 => ?_
    -- cond 2
    refine AW.cond rfl (by simp only [go_sem, reduceIte, reduceCtorEq, Nat.reduceAdd, Nat.reduceMul, Nat.reduceEqDiff, Nat.reduceLT, Nat.reduceLeDiff, Nat.reduceSub, Nat.reducePow, Nat.reduceBEq, Int.reduceToNat, List.reduceReplicate]) ?_ ?_
    · intro hb
      try simp only [hB, decide_eq_true_eq, decide_eq_false_iff_not] at hb
      obtain ⟨x, hx⟩ := getI (l := n.E) (j := j) (by omega)
      have hxv := getV (f := edgeV) hx
      have hea := eAt_of hx
      have hxr := valid_edge hv hx
      have hgf := ints_getD (l := fl) (i := j) (by omega)
      have hbl : (balL n fl j).length = n.N.toNat := by simp [balL]
      have hg1 := ints_getD (l := balL n fl j) (i := x.fr.toNat) (by omega)
      have hgs : (((balL n fl j).set x.fr.toNat ((balL n fl j).getD x.fr.toNat 0 + fl.getD j 0))).getD x.to.toNat 0 = (balL n fl j).getD x.to.toNat 0 := Go.AM.getD_set_ne (by omega) _ _
      have hg2 := ints_getD (l := (balL n fl j).set x.fr.toNat ((balL n fl j).getD x.fr.toNat 0 + fl.getD j 0)) (i := x.to.toNat) (by simp; omega)
      rw [hgs] at hg2
      have hbs := balL_succ (n := n) (fl := fl) hea ⟨by omega, by omega⟩ ⟨by omega, by omega⟩ hxr.2.2.2.2.1
      have hcs := capsB_succ n.E fl j
      rw [hc, hea] at hcs
      have hrng : ∀ u : Nat, u < n.N.toNat → -4611686018427387904 ≤ (balL n fl j).getD u 0 ∧ (balL n fl j).getD u 0 ≤ 4611686018427387904 := fun u hu => by
        have hB : ∀ i, -1125899906842624 ≤ (fl.take j).getD i 0 ∧ (fl.take j).getD i 0 ≤ 1125899906842624 := fun i => by
          by_cases hi : i < j
          · have h1 := List.all_eq_true.1 hc i (List.mem_range.2 hi)
            have h2 := valid_edge hv (eAt_get (E := n.E) (i := i) (by omega))
            simp only [Bool.and_eq_true, decide_eq_true_eq] at h1
            rw [List.getD_eq_getElem?_getD, List.getElem?_take, if_pos hi, ← List.getD_eq_getElem?_getD]; omega
          · rw [List.getD_eq_getElem?_getD, List.getElem?_take, if_neg hi]; simp
        rw [balL_get hu, ← balAt_take n.E fl u j j (Nat.le_refl _)]
        have := bal_bnd (E := n.E) (fl := fl.take j) (v := u) (by decide) hB j
        omega
      have hr1 := hrng x.fr.toNat (by omega)
      have hr2 := hrng x.to.toNat (by omega)
      generalize balL n fl j = L at *
      refine AW.skip ?_
      refine hK9 _ _ _ ?_; clear hK9
      refine AW.seq fun K10 hK10 => ?_
      refine AW.block ?_
      refine AW.seq fun K11 hK11 => ?_
      -- region 6
      refine AW.regionK 0 (fun _ => none) [1, 6, 7, 8, 19, 20, 21] [8, 17] ?_
      simp only [go_sem, reduceIte, reduceCtorEq, Nat.reduceAdd, Nat.reduceMul, Nat.reduceEqDiff, Nat.reduceLT, Nat.reduceLeDiff, Nat.reduceSub, Nat.reducePow, Nat.reduceBEq, Int.reduceToNat, List.reduceReplicate, hxv, edgeV]
      repeat with_reducible refine cj ?_ ?_
      all_goals try first | omega
      refine hK11 _ _ _ ?_; clear hK11
      refine AW.seq fun K12 hK12 => ?_
      refine AW.seq fun K13 hK13 => ?_
      -- region 7
      refine AW.regionD mixed 0 (fun _ => none) [1, 6, 7, 8, 19, 20, 21, 39] [8, 17] ?_
      simp only [go_sem, reduceIte, reduceCtorEq, Nat.reduceAdd, Nat.reduceMul, Nat.reduceEqDiff, Nat.reduceLT, Nat.reduceLeDiff, Nat.reduceSub, Nat.reducePow, Nat.reduceBEq, Int.reduceToNat, List.reduceReplicate, hgf]
      repeat with_reducible refine cj ?_ ?_
      all_goals try first | omega | exact chk (by kernel_rfl) | (intros; (repeat' apply And.intro) <;> first | assumption | omega | decide) | (intro hgd; exact absurd hgd (by decide)) | rfl | (simp only [go_sem, reduceIte, reduceCtorEq, Nat.reduceAdd, Nat.reduceMul, Nat.reduceEqDiff, Nat.reduceLT, Nat.reduceLeDiff, Nat.reduceSub, Nat.reducePow, Nat.reduceBEq, Int.reduceToNat, List.reduceReplicate, hgf]; done) | (intro _hgd; simp_all [go_sem]; done)
      refine hK13 _ _ _ ?_; clear hK13
      -- cond 3
      refine AW.cond rfl (by simp only [go_sem, reduceIte, reduceCtorEq, Nat.reduceAdd, Nat.reduceMul, Nat.reduceEqDiff, Nat.reduceLT, Nat.reduceLeDiff, Nat.reduceSub, Nat.reducePow, Nat.reduceBEq, Int.reduceToNat, List.reduceReplicate]) ?_ ?_
      · intro hb
        try simp only [hB, decide_eq_true_eq, decide_eq_false_iff_not] at hb
        refine AW.seq fun K14 hK14 => ?_
        -- region 8
        refine AW.regionK 0 (fun _ => none) [4, 5] [] ?_
        simp only [go_sem, reduceIte, reduceCtorEq, Nat.reduceAdd, Nat.reduceMul, Nat.reduceEqDiff, Nat.reduceLT, Nat.reduceLeDiff, Nat.reduceSub, Nat.reducePow, Nat.reduceBEq, Int.reduceToNat, List.reduceReplicate]
        repeat with_reducible refine cj ?_ ?_
        all_goals try first | omega
        refine hK14 _ _ _ ?_; clear hK14
        refine AW.ret ?_
        rw [← hQl1]
        rw [← hQr]
        simp only [go_sem, reduceIte, reduceCtorEq, Nat.reduceAdd, Nat.reduceMul, Nat.reduceEqDiff, Nat.reduceLT, Nat.reduceLeDiff, Nat.reduceSub, Nat.reducePow, Nat.reduceBEq, Int.reduceToNat, List.reduceReplicate]
        have hf : capsB n.E fl n.E.length = false := capsB_false (j := j) (by omega) (by rw [hea]; omega)
        refine Wk.tup2 ?_ ?_
        · rw [hf, Bool.and_false]; exact Wk.nil 1
        · exact Wk.of_eq (by rw [hf, Bool.and_false])
      · intro hb
        try simp only [hB, decide_eq_true_eq, decide_eq_false_iff_not] at hb
        have hfr : 0 ≤ fl.getD j 0 ∧ fl.getD j 0 ≤ x.cap := by omega
        refine AW.skip ?_
        refine hK12 _ _ _ ?_; clear hK12
        refine AW.seq fun K15 hK15 => ?_
        -- region 9
        refine AW.regionD mixed 0 (fun _ => none) [1, 6, 7, 8, 19, 20, 21] [8, 17] ?_
        simp only [go_sem, reduceIte, reduceCtorEq, Nat.reduceAdd, Nat.reduceMul, Nat.reduceEqDiff, Nat.reduceLT, Nat.reduceLeDiff, Nat.reduceSub, Nat.reducePow, Nat.reduceBEq, Int.reduceToNat, List.reduceReplicate, hgf, hg1]
        repeat with_reducible refine cj ?_ ?_
        all_goals try first | omega | exact chk (by kernel_rfl)
        refine hK15 _ _ _ ?_; clear hK15
        -- region 10
        refine AW.regionD mixed 0 (fun _ => none) [1, 6, 19, 20, 21] [17] ?_
        simp only [go_sem, reduceIte, reduceCtorEq, Nat.reduceAdd, Nat.reduceMul, Nat.reduceEqDiff, Nat.reduceLT, Nat.reduceLeDiff, Nat.reduceSub, Nat.reducePow, Nat.reduceBEq, Int.reduceToNat, List.reduceReplicate, hgf, hg2]
        repeat with_reducible refine cj ?_ ?_
        all_goals try first | omega | exact chk (by kernel_rfl)
        refine hK10 _ _ _ ?_; clear hK10
        -- region 11
        refine AW.regionK 0 (fun _ => none) [1, 6, 19, 20, 21] [17] ?_
        simp only [go_sem, reduceIte, reduceCtorEq, Nat.reduceAdd, Nat.reduceMul, Nat.reduceEqDiff, Nat.reduceLT, Nat.reduceLeDiff, Nat.reduceSub, Nat.reducePow, Nat.reduceBEq, Int.reduceToNat, List.reduceReplicate]
        repeat with_reducible refine cj ?_ ?_
        all_goals try first | omega
        rw [← hQl1]
        change Exists _
        refine ⟨_, ?hm, j + 1, ?_, ?_, rfl, ?henv, ?hstore, ?hst⟩
        case henv =>
          repeat' (first | rfl | refine env_cons ?_ ?_ | refine st_cons ?_ ?_ ?_ ?_ | refine int_eq ?_ | refine bool_eq ?_ | refine rsl_eq ?_ | refine osl_eq ?_ | refine sl_eq ?_ ?_ ?_ | refine ptr_eq ?_ ?_ ?_ | refine agg_eq ?_ | refine es_cons ?_ ?_ | refine row_cons ?_ ?_)
          all_goals (first | (simp; done) | omega | (simp; omega))
        case hstore =>
          repeat' (first | rfl | refine env_cons ?_ ?_ | refine st_cons ?_ ?_ ?_ ?_ | refine int_eq ?_ | refine bool_eq ?_ | refine rsl_eq ?_ | refine osl_eq ?_ | refine sl_eq ?_ ?_ ?_ | refine ptr_eq ?_ ?_ ?_ | refine agg_eq ?_ | refine es_cons ?_ ?_ | refine row_cons ?_ ?_)
          all_goals (rw [hbs])
        case hst =>
          exact ⟨by omega, by rw [hcs, decide_eq_true hfr.1, decide_eq_true hfr.2]; rfl⟩
        case hm => omega
    · intro hb
      try simp only [hB, decide_eq_true_eq, decide_eq_false_iff_not] at hb
      refine AW.keep [6] [17] ?_
      try simp only [go_sem, reduceIte, reduceCtorEq, Nat.reduceAdd, Nat.reduceMul, Nat.reduceEqDiff, Nat.reduceLT, Nat.reduceLeDiff, Nat.reduceSub, Nat.reducePow, Nat.reduceBEq, Int.reduceToNat, List.reduceReplicate]
      refine AW.exit ?_
      rw [← hQl1]
      refine hK6 _ _ _ ?_; clear hK6
      refine AW.seq fun K16 hK16 => ?_
      -- region 12
      refine AW.regionK 0 (fun _ => none) [4, 5] [17] ?_
      simp only [go_sem, reduceIte, reduceCtorEq, Nat.reduceAdd, Nat.reduceMul, Nat.reduceEqDiff, Nat.reduceLT, Nat.reduceLeDiff, Nat.reduceSub, Nat.reducePow, Nat.reduceBEq, Int.reduceToNat, List.reduceReplicate]
      repeat with_reducible refine cj ?_ ?_
      all_goals try first | omega
      refine hK16 _ _ _ ?_; clear hK16
      refine AW.ret ?_
      rw [← hQr]
      simp only [go_sem, reduceIte, reduceCtorEq, Nat.reduceAdd, Nat.reduceMul, Nat.reduceEqDiff, Nat.reduceLT, Nat.reduceLeDiff, Nat.reduceSub, Nat.reducePow, Nat.reduceBEq, Int.reduceToNat, List.reduceReplicate]
      have hj : j = n.E.length := by omega
      subst hj
      rw [hc, hlen]
      simp only [decide_true, Bool.true_and, if_true]
      rw [List.take_of_length_le (by rw [balL_len]; exact Nat.le_refl _)]
      exact Wk.refl _
end Go.Proofs.F
/- The nearest cut is the same for each maximal flow. -/
namespace Go.AM
def Full (n : Net) (fl : List Int) (S : Int → Bool) : Prop := ∀ i, i < n.E.length → (S (eAt n.E i).fr = true → S (eAt n.E i).to = false → fl.getD i 0 = (eAt n.E i).cap) ∧ (S (eAt n.E i).fr = false → S (eAt n.E i).to = true → fl.getD i 0 = 0)
structure Near (n : Net) (s : Int) (fl : List Int) (S : Int → Bool) : Prop where
  src : S s = true
  full : Full n fl S
  least : ∀ T : Int → Bool, T s = true → Full n fl T → ∀ u : Int, 0 ≤ u → u < n.N → S u = true → T u = true
theorem net_cap_sat (E : List Edg) (S : Int → Bool) (fl : List Int) (h : ∀ i, i < E.length → 0 ≤ fl.getD i 0 ∧ fl.getD i 0 ≤ (eAt E i).cap) : ∀ j, j ≤ E.length → netAt E S fl j = capAt E S j →
    ∀ i, i < j → (S (eAt E i).fr = true → S (eAt E i).to = false → fl.getD i 0 = (eAt E i).cap) ∧ (S (eAt E i).fr = false → S (eAt E i).to = true → fl.getD i 0 = 0)
  | 0, _, _, i, hi => by omega
  | j + 1, hj, he, i, hi => by
    have hle := net_le_cap E S fl h j (by omega)
    have hb := h j (by omega)
    have key : netAt E S fl j = capAt E S j ∧ (S (eAt E j).fr = true → S (eAt E j).to = false → fl.getD j 0 = (eAt E j).cap) ∧ (S (eAt E j).fr = false → S (eAt E j).to = true → fl.getD j 0 = 0) := by
      simp only [netAt, capAt] at he
      unfold ind at he
      generalize fl.getD j 0 = x at *
      cases h1 : S (eAt E j).fr <;> cases h2 : S (eAt E j).to <;> simp [h1, h2] at he ⊢ <;> omega
    by_cases hij : i = j
    · subst hij; exact key.2
    · exact net_cap_sat E S fl h j (by omega) key.1 i (by omega)
/-- A cut that is full for one maximal flow is full for each. -/
theorem full_all {n : Net} {s t : Int} {fl gl : List Int} {S : Int → Bool} (hv : validB n = true) (hs0 : 0 ≤ s) (hs1 : s < n.N) (hf : IsFlow n s t fl) (hg : IsFlow n s t gl) (hs : S s = true) (ht : S t = false) (h : Full n fl S) (he : bal n gl s = bal n fl s) : Full n gl S := by
  rw [value_net hv hs0 hs1 hf hs ht, value_net hv hs0 hs1 hg hs ht, net_eq_cap n.E S fl h n.E.length (Nat.le_refl _)] at he
  exact fun i hi => net_cap_sat n.E S gl hg.caps n.E.length (Nat.le_refl _) he i hi
theorem near_uniq {n : Net} {s t : Int} {fl gl : List Int} {S T : Int → Bool} (hv : validB n = true) (hs0 : 0 ≤ s) (hs1 : s < n.N) (hf : IsFlow n s t fl) (hg : IsFlow n s t gl) (hS : Near n s fl S) (hT : Near n s gl T) (hSt : S t = false) (hTt : T t = false) (he : bal n gl s = bal n fl s) (u : Int) (h0 : 0 ≤ u) (h1 : u < n.N) : S u = T u := by
  have a := hS.least T hT.src (full_all hv hs0 hs1 hg hf hT.src hTt hT.full he.symm) u h0 h1
  have b := hT.least S hS.src (full_all hv hs0 hs1 hf hg hS.src hSt hS.full he) u h0 h1
  cases hu : S u <;> cases hw : T u <;> simp_all
theorem near_val {n : Net} {s t : Int} {fl : List Int} {S : Int → Bool} (hv : validB n = true) (hs0 : 0 ≤ s) (hs1 : s < n.N) (hf : IsFlow n s t fl) (hS : Near n s fl S) (ht : S t = false) : bal n fl s = capAt n.E S n.E.length := by
  rw [value_net hv hs0 hs1 hf hS.src ht, net_eq_cap n.E S fl hS.full n.E.length (Nat.le_refl _)]
theorem capAt_congr {E : List Edg} {S T : Int → Bool} (h : ∀ i, i < E.length → S (eAt E i).fr = T (eAt E i).fr ∧ S (eAt E i).to = T (eAt E i).to) : ∀ j, j ≤ E.length → capAt E S j = capAt E T j
  | 0, _ => rfl
  | j + 1, hj => by
    simp only [capAt, capAt_congr h j (by omega), (h j (by omega)).1, (h j (by omega)).2]
/-- A residual arc does not leave a full set. -/
theorem Full.step {n : Net} {fl : List Int} {T : Int → Bool} (h : Full n fl T) {b : Int} (hb : okB n.E b) (hr : 0 < room n.E fl b) (hs : T (srcB n.E b) = true) : T (dstB n.E b) = true := by
  unfold room at hr
  unfold srcB at hs
  unfold dstB
  rcases hb with ⟨h0, h1⟩ | ⟨h0, h1⟩
  · rw [if_pos h0] at hr hs ⊢
    have := (h b.toNat (by omega)).1 hs
    cases hd : T (eAt n.E b.toNat).to with
    | true => rfl
    | false => have := this hd; omega
  · rw [if_neg (by omega)] at hr hs ⊢
    have := (h (-2 - b).toNat (by omega)).2
    cases hd : T (eAt n.E (-2 - b).toNat).fr with
    | true => rfl
    | false => have := this hd hs; omega
theorem near_ref {n : Net} {s : Int} {fl : List Int} (hv : validB n = true) (h0 : 0 ≤ s) (h1 : s < n.N) (hc : ∀ i, i < n.E.length → 0 ≤ fl.getD i 0 ∧ fl.getD i 0 ≤ (eAt n.E i).cap) {q : List Bool × List Int} (hq : rReach n s fl = some q) : q.1.length = n.N.toNat ∧ Near n s fl (fun u => q.1.getD u.toNat false) := by
  obtain ⟨Q, k⟩ := rReach_ri hv h0 h1 hq
  have hsQ : s ∈ Q := List.mem_of_getElem? k.hd
  refine ⟨k.l1, (k.seen s h0 (by omega)).2 hsQ, fun i hi => ?_, fun T hT hF u hu0 hu1 hu => ?_⟩
  · have hin := edges_in hv i hi
    have hc := hc i hi
    refine ⟨fun h1 h2 => ?_, fun h1 h2 => ?_⟩
    · have hm := (k.seen _ hin.1 hin.2.1).1 h1
      obtain ⟨j, hj, hje⟩ := List.mem_iff_getElem.1 hm
      have := (k.cl j _ hj (List.getElem?_eq_getElem hj) i hi).1 hje.symm
      rcases Int.lt_or_le (fl.getD i 0) (eAt n.E i).cap with h3 | h3
      · have h4 := this h3; simp only at h4 h2; rw [h4] at h2; cases h2
      · omega
    · have hm := (k.seen _ hin.2.2.1 hin.2.2.2).1 h2
      obtain ⟨j, hj, hje⟩ := List.mem_iff_getElem.1 hm
      have := (k.cl j _ hj (List.getElem?_eq_getElem hj) i hi).2 hje.symm
      rcases Int.lt_or_le 0 (fl.getD i 0) with h3 | h3
      · have h4 := this h3; simp only at h4 h1; rw [h4] at h1; cases h1
      · omega
  · have hm := (k.seen u hu0 (by omega)).1 hu
    have all : ∀ (m : Nat) (j : Nat) (v : Int), j < m → Q[j]? = some v → T v = true := by
      intro m
      induction m with
      | zero => intro j v hj; omega
      | succ m ih =>
        intro j v hj hv'
        cases j with
        | zero => rw [k.hd] at hv'; obtain rfl := Option.some.inj hv'; exact hT
        | succ j =>
          obtain ⟨a1, a2, a3, i', a4, a5⟩ := k.tr j v hv'
          have := hF.step a1 a3 (ih i' _ (by omega) a5)
          rw [a2] at this; exact this
    obtain ⟨j, hj, hje⟩ := List.mem_iff_getElem.1 hm
    exact all (j + 1) j u (by omega) (by rw [List.getElem?_eq_getElem hj, hje])
theorem near_prog {n : Net} {s : Int} {A : List Arc} {fl pr : List Int} (hv : validB n = true) (h0 : 0 ≤ s) (h1 : s < n.N) (hc : ∀ i, i < n.E.length → 0 ≤ fl.getD i 0 ∧ fl.getD i 0 ≤ (eAt n.E i).cap) (hR : Rep n A fl) (hr : reachP A (openP n).2 s = some pr) : pr.length = n.N.toNat ∧ Near n s fl (fun u => decide (pr.getD u.toNat 0 ≠ -1)) := by
  have ho := open_len hv
  obtain ⟨r, q, k1, k2⟩ := reach_pi hv hR h0 h1
  rw [k1] at hr; obtain rfl := Option.some.inj hr
  have hsQ := List.mem_of_getElem? k2.hd
  refine ⟨k2.l1, decide_eq_true ((k2.seen s h0 (by omega)).2 hsQ), fun i hi => ?_, fun T hT hF u hu0 hu1 hu => ?_⟩
  · have hin := edges_in hv i hi
    have hc := hc i hi
    refine ⟨fun h1 h2 => ?_, fun h1 h2 => ?_⟩
    · have h1' := of_decide_eq_true h1
      have hm := (k2.seen _ hin.1 hin.2.1).1 h1'
      obtain ⟨j, hj, hje⟩ := List.mem_iff_getElem.1 hm
      have hcd : cd (2 * (i : Int)) = i := by unfold cd; rw [if_pos (by omega)]; omega
      have hlv := (ho.lv _ hin.1 (by omega) (2 * (i : Int))).2 ⟨by omega, by omega, by rw [hcd]; unfold srcB; rw [if_pos (by omega)]; simp⟩
      have hcl := k2.cl j _ hj (List.getElem?_eq_getElem hj) (2 * (i : Int)) (by simp only at hje ⊢; rw [hje]; exact hlv)
      have hl : aLeft A (2 * (i : Int)) = (eAt n.E i).cap - fl.getD i 0 := by unfold aLeft; rw [show (2 * (i : Int)).toNat = 2 * i by omega, hR.ev i hi]
      have hto : aTo A (2 * (i : Int)) = (eAt n.E i).to := by unfold aTo; rw [show (2 * (i : Int)).toNat = 2 * i by omega, hR.ev i hi]
      rw [hl, hto] at hcl
      rcases Int.lt_or_le (fl.getD i 0) (eAt n.E i).cap with h3 | h3
      · exact absurd (hcl (by omega)) (fun h => of_decide_eq_false h2 h)
      · omega
    · have h2' := of_decide_eq_true h2
      have hm := (k2.seen _ hin.2.2.1 hin.2.2.2).1 h2'
      obtain ⟨j, hj, hje⟩ := List.mem_iff_getElem.1 hm
      have hcd : cd (2 * (i : Int) + 1) = -2 - i := by unfold cd; rw [if_neg (by omega)]; omega
      have hlv := (ho.lv _ hin.2.2.1 (by omega) (2 * (i : Int) + 1)).2 ⟨by omega, by omega, by rw [hcd]; unfold srcB; rw [if_neg (by omega), show (-2 - (-2 - (i : Int))).toNat = i by omega]⟩
      have hcl := k2.cl j _ hj (List.getElem?_eq_getElem hj) (2 * (i : Int) + 1) (by simp only at hje ⊢; rw [hje]; exact hlv)
      have hl : aLeft A (2 * (i : Int) + 1) = fl.getD i 0 := by unfold aLeft; rw [show (2 * (i : Int) + 1).toNat = 2 * i + 1 by omega, hR.od i hi]
      have hto : aTo A (2 * (i : Int) + 1) = (eAt n.E i).fr := by unfold aTo; rw [show (2 * (i : Int) + 1).toNat = 2 * i + 1 by omega, hR.od i hi]
      rw [hl, hto] at hcl
      rcases Int.lt_or_le 0 (fl.getD i 0) with h3 | h3
      · exact absurd (hcl h3) (fun h => of_decide_eq_false h1 h)
      · omega
  · have hm := (k2.seen u hu0 (by omega)).1 (of_decide_eq_true hu)
    have all : ∀ (m : Nat) (j : Nat) (v : Int), j < m → q[j]? = some v → T v = true := by
      intro m
      induction m with
      | zero => intro j v hj; omega
      | succ m ih =>
        intro j v hj hv'
        cases j with
        | zero => have := k2.hd; simp only at this; rw [this] at hv'; obtain rfl := Option.some.inj hv'; exact hT
        | succ j =>
          obtain ⟨a0, a1, a2, a3, i', a4, a5⟩ := k2.tr j v hv'
          obtain ⟨c1, c2, c3, c4, _, _⟩ := cd_facts hR a0 a1
          have := hF.step c1 (by rw [c4]; exact a3) (ih i' _ (by omega) a5)
          rw [c2, a2] at this; exact this
    obtain ⟨j, hj, hje⟩ := List.mem_iff_getElem.1 hm
    exact all (j + 1) j u (by have : j < q.length := hj; omega) (by rw [List.getElem?_eq_getElem hj, hje])
end Go.AM
/- The reference's network of a closure problem. -/
namespace Go.AM
def rwEdge (n i w : Int) : Edg := if 0 < w then ⟨n, i, w⟩ else ⟨i, n + 1, 0 - w⟩
def rwEdges (ws : List Int) (j : Nat) : List Edg := (List.range j).map fun (i : Nat) => rwEdge ws.length i (ws.getD i 0)
def rnEdge (B : Int) (p : Int × Int) : List Edg := if p.1 = p.2 then [] else [⟨p.1, p.2, B⟩]
def rnEdges (B : Int) (ns : List (Int × Int)) : List Edg := ns.flatMap (rnEdge B)
def bigAt (ws : List Int) : Nat → Int
  | 0 => 1
  | j + 1 => bigAt ws j + if 0 < ws.getD j 0 then ws.getD j 0 else 0
def rNet (ws : List Int) (ns : List (Int × Int)) : Net := ⟨ws.length + 2, rwEdges ws ws.length ++ rnEdges (bigAt ws ws.length) ns⟩
def sumB (ws : List Int) (b : List Bool) : Nat → Int
  | 0 => 0
  | j + 1 => sumB ws b j + if b.getD j false = true then ws.getD j 0 else 0
theorem rwEdges_succ (ws : List Int) (j : Nat) : rwEdges ws (j + 1) = rwEdges ws j ++ [rwEdge ws.length j (ws.getD j 0)] := by
  unfold rwEdges; rw [List.range_succ, List.map_append]; rfl
theorem rwEdges_len (ws : List Int) (j : Nat) : (rwEdges ws j).length = j := by simp [rwEdges]
theorem rnEdges_succ {B : Int} {ns : List (Int × Int)} {j : Nat} {p : Int × Int} (h : ns[j]? = some p) : rnEdges B (ns.take (j + 1)) = rnEdges B (ns.take j) ++ rnEdge B p := by
  obtain ⟨hj, rfl⟩ := List.getElem?_eq_some_iff.1 h
  unfold rnEdges; rw [List.take_succ_eq_append_getElem hj, List.flatMap_append]; simp only [List.flatMap_cons, List.flatMap_nil, List.append_nil]
theorem rnEdges_len (B : Int) (ns : List (Int × Int)) : (rnEdges B ns).length ≤ ns.length := by
  induction ns with
  | nil => simp [rnEdges]
  | cons p ns ih =>
    have : (rnEdge B p).length ≤ 1 := by unfold rnEdge; split <;> simp
    simp only [rnEdges, List.flatMap_cons, List.length_append, List.length_cons] at ih ⊢
    omega
theorem bigAt_bnd {ws : List Int} {B : Int} (hB : 0 ≤ B) (h : ∀ w ∈ ws, -B ≤ w ∧ w ≤ B) : ∀ j, 1 ≤ bigAt ws j ∧ bigAt ws j ≤ 1 + B * j
  | 0 => by simp [bigAt]
  | j + 1 => by
    have ih := bigAt_bnd hB h j
    have hx : -B ≤ ws.getD j 0 ∧ ws.getD j 0 ≤ B := by
      by_cases hi : j < ws.length
      · exact h _ (mem_getD hi 0)
      · rw [getD_out (by omega)]; omega
    simp only [bigAt]
    rw [Int.natCast_succ, Int.mul_add]
    split <;> omega
theorem sumB_bnd {ws : List Int} {b : List Bool} {B : Int} (hB : 0 ≤ B) (h : ∀ w ∈ ws, -B ≤ w ∧ w ≤ B) : ∀ j, -(B * j) ≤ sumB ws b j ∧ sumB ws b j ≤ B * j
  | 0 => by simp [sumB]
  | j + 1 => by
    have ih := sumB_bnd (b := b) hB h j
    have hx : -B ≤ ws.getD j 0 ∧ ws.getD j 0 ≤ B := by
      by_cases hi : j < ws.length
      · exact h _ (mem_getD hi 0)
      · rw [getD_out (by omega)]; omega
    simp only [sumB]
    rw [Int.natCast_succ, Int.mul_add]
    split <;> omega
theorem mark_set {b : List Bool} {n j : Nat} (hj : j < n) (hn : n ≤ b.length) : (b.take j ++ List.replicate (n - j) false).set j (b.getD j false) = b.take (j + 1) ++ List.replicate (n - (j + 1)) false := by
  have h1 : (b.take j).length = j := by simp; omega
  rw [List.set_append_right _ _ (by omega), h1, Nat.sub_self, List.take_succ_eq_append_getElem (by omega)]
  obtain ⟨m, hm⟩ : ∃ m, n - j = m + 1 := ⟨n - j - 1, by omega⟩
  rw [hm, show n - (j + 1) = m by omega, List.replicate_succ, List.set_cons_zero, List.getD_eq_getElem?_getD, List.getElem?_eq_getElem (by omega), Option.getD_some, List.append_assoc, List.singleton_append]
end Go.AM
