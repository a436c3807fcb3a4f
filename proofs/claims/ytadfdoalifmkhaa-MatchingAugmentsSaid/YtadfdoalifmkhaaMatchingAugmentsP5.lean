/- Lemmas and contracts, part 5: an abstract machine over the model, and the functions that the statement reaches. -/
import Derived.Test.YtadfdoalifmkhaaMatchingAugmentsP4
set_option linter.unusedVariables false
set_option linter.unusedSimpArgs false
namespace Go.Proofs.M
open Go.AM Go
set_option maxRecDepth 100000
set_option maxHeartbeats 2000000
def fillT (n j : Nat) : List Bool := List.replicate j true ++ List.replicate (n - j) false
theorem fillT_len {n j : Nat} (h : j ≤ n) : (fillT n j).length = n := by simp [fillT]; omega
theorem fillT_succ {n j : Nat} (h : j < n) : (fillT n j).set j true = fillT n (j + 1) := by
  unfold fillT
  rw [show n - j = (n - (j + 1)) + 1 by omega, List.replicate_succ, List.set_append_right _ _ (by simp)]
  simp [List.replicate_succ']
theorem fillT_all (n : Nat) : fillT n n = List.replicate n true := by simp [fillT]
/-- The reference's reached nodes. -/
def refM (n m : Nat) (E : List (Int × Int)) : FSt := reachF (maxLR (nbOf n E) n m n).2 E n m
theorem Gd.edg {n m : Nat} {E : List (Int × Int)} (h : Gd n m E) : ∀ e ∈ E, edgeIn n m e = true ∧ e.2 ∈ nbl (nbOf n E) e.1.toNat := fun e he => by
  have h1 := edgeIn_iff.1 (h.hE e he)
  refine ⟨h.hE e he, (nbOf_mem h.hE _ _).2 ?_⟩
  rw [Int.toNat_of_nonneg h1.1]; exact he
theorem Gd.ref {n m : Nat} {E : List (Int × Int)} (h : Gd n m E) : (refM n m E).1.length = n ∧ (refM n m E).2.length = m ∧ (∀ i, sg (refM n m E).1 i ↔ RL (nbOf n E) n (maxLR (nbOf n E) n m n).1 (maxLR (nbOf n E) n m n).2 i) ∧ ∀ r, sg (refM n m E).2 r ↔ RR (nbOf n E) n (maxLR (nbOf n E) n m n).1 (maxLR (nbOf n E) n m n).2 r :=
  reachF_spec h.max.1 h.edg fun l r hr => (nbOf_mem h.hE l r).1 hr
theorem rreached_u {n m : Nat} {E : List (Int × Int)} (h : Gd n m E) : Upd Try.prog 29 [] [.int .i64 n, .int .i64 m, .rsl 2 (E.map pairV)]
    (fun k => .tup [.sl ⟨0, k, none⟩ 0 n none, .sl ⟨1, k, none⟩ 0 m none]) (fun k => [(0, some ⟨k, k, 1, bools (refM n m E).1⟩), (1, some ⟨k, k, 1, bools (refM n m E).2⟩)]) := by
  have hn := h.hn
  have hm := h.hm
  have hmt := mates_r hn hm h.hE h.hl
  have hMch := h.max.1
  have hEd := h.edg
  have hEl := h.hl
  have hz1 : List.replicate n [AV.bool false] = bools (fillT n 0) := by simp [bools, fillT]
  have hz2 : List.replicate m [AV.bool false] = bools (List.replicate m false) := by simp [bools]
  obtain ⟨T, hT⟩ : ∃ T, refM n m E = T := ⟨_, rfl⟩
  have hT0 := hT
  rw [hT]
  have h0 : FIv n m (nbOf n E) (maxLR (nbOf n E) n m n).1 (maxLR (nbOf n E) n m n).2 (freeF (maxLR (nbOf n E) n m n).2 n m, List.replicate m false) := by
    have hfg := freeF_get hMch.hR hMch.hRn m (Nat.le_refl m)
    refine ⟨freeF_len _ n m, by simp, fun i hi => ?_, fun r hr => absurd hr (sg_none m r), fun r hr => absurd hr (sg_none m r), fun i hi h0 => ?_⟩
    · have hin : i < n := by
        have hfl := freeF_len (maxLR (nbOf n E) n m n).2 n m
        by_cases hh : i < n
        · exact hh
        · unfold sg at hi; rw [getD_out (by simp only; omega)] at hi; cases hi
      refine .free hin ?_
      have h1 := (hfg i hin).1 hi
      have hm := hMch.hLm i
      by_cases h2 : gi (maxLR (nbOf n E) n m n).1 i < 0
      · exact h2
      · have h3 := (hMch.hC i (gi (maxLR (nbOf n E) n m n).1 i).toNat).1 (by omega)
        exact absurd h3 (h1 _ (by omega))
    · exact (hfg i hi).2 fun r _ hr => by have := (hMch.hC i r).2 hr; omega
  unfold refM reachF at hT
  generalize nbOf n E = nb at *
  generalize hL : (maxLR nb n m n).1 = L at *
  generalize hR : (maxLR nb n m n).2 = R at *
  have hRl := hMch.hR
  have hRn := hMch.hRn
  clear hL hR
  refine Upd.of_body (rs := [.tmp 6, .tmp 7]) Try.func29 rfl Try.ntmps29 rfl (by simp) ?_
  intro k0 k hk0 hk1
  generalize hQr : retQ _ _ _ = Qr
  refine AW.seq fun K1 hK1 => ?_
  -- region 0
  refine AW.regionK 100 (fun _ => none) [0, 1, 2] [122, 124] ?_
  simp only [go_sem, reduceIte, reduceCtorEq, Nat.reduceAdd, Nat.reduceMul, Nat.reduceEqDiff, Nat.reduceLT, Nat.reduceLeDiff, Nat.reduceSub, Nat.reducePow, Nat.reduceBEq, Int.reduceToNat, List.reduceReplicate, ints_len, bools_len, hRl]
  repeat with_reducible refine cj ?_ ?_
  all_goals try first | omega
  refine hK1 _ _ _ ?_; clear hK1
  refine AW.seq fun K2 hK2 => ?_
  -- region 1
  refine AW.regionK 100 (fun ii => if ii = 3 then some (.reads true (.rsl 1 (ints R))) else none) [0, 1, 2, 8] [122, 124] ?_
  simp only [go_sem, reduceIte, reduceCtorEq, Nat.reduceAdd, Nat.reduceMul, Nat.reduceEqDiff, Nat.reduceLT, Nat.reduceLeDiff, Nat.reduceSub, Nat.reducePow, Nat.reduceBEq, Int.reduceToNat, List.reduceReplicate, ints_len, bools_len, hRl]
  repeat with_reducible refine cj ?_ ?_
  all_goals try first | (exact hmt) | omega | exact ent (by kernel_rfl)
  refine hK2 _ _ _ ?_; clear hK2
  refine AW.seq fun K3 hK3 => ?_
  -- region 2
  refine AW.regionD mixed 100 (fun _ => none) [0, 1, 2, 8, 9, 10] [122, 124] ?_
  simp only [go_sem, reduceIte, reduceCtorEq, Nat.reduceAdd, Nat.reduceMul, Nat.reduceEqDiff, Nat.reduceLT, Nat.reduceLeDiff, Nat.reduceSub, Nat.reducePow, Nat.reduceBEq, Int.reduceToNat, List.reduceReplicate, ints_len, bools_len, hRl, hz1, hz2]
  repeat with_reducible refine cj ?_ ?_
  all_goals try first | omega | exact chk (by kernel_rfl)
  refine hK3 _ _ _ ?_; clear hK3
  refine AW.seq fun K4 hK4 => ?_
  refine AW.seq fun K5 hK5 => ?_
  -- region 3
  refine AW.regionK 100 (fun _ => none) [0, 1, 2, 8, 9, 10, 11] [122, 124] ?_
  simp only [go_sem, reduceIte, reduceCtorEq, Nat.reduceAdd, Nat.reduceMul, Nat.reduceEqDiff, Nat.reduceLT, Nat.reduceLeDiff, Nat.reduceSub, Nat.reducePow, Nat.reduceBEq, Int.reduceToNat, List.reduceReplicate, ints_len, bools_len, hRl]
  repeat with_reducible refine cj ?_ ?_
  all_goals try first | omega
  refine hK5 _ _ _ ?_; clear hK5
  refine AW.block ?_
  -- loop 1
  refine AW.loopE (fun mm ee ss kk => ∃ (j g1 v1 g2 v2 : Nat), n - j = mm ∧ ee = [(0, .int .i64 n), (1, .int .i64 m), (2, .rsl 2 (E.map pairV)), (8, .rsl 1 (ints R)), (9, .sl ⟨122, g1, none⟩ 0 n none), (10, .sl ⟨124, g2, none⟩ 0 m none), (11, .int .i64 (j : Nat))] ∧ ss = [(122, some ⟨g1, v1, 1, bools (fillT n j)⟩), (124, some ⟨g2, v2, 1, bools (List.replicate m false)⟩)] ∧ (j ≤ n)) ?_ ?_
  · refine ⟨_, 0, ?_, ?_, ?_, ?_, rfl, ?henv, ?hstore, ?hst⟩
    case henv =>
      repeat' (first | rfl | refine env_cons ?_ ?_ | refine st_cons ?_ ?_ ?_ ?_ | refine int_eq ?_ | refine bool_eq ?_ | refine rsl_eq ?_ | refine osl_eq ?_ | refine sl_eq ?_ ?_ ?_ | refine ptr_eq ?_ ?_ ?_ | refine agg_eq ?_ | refine es_cons ?_ ?_ | refine row_cons ?_ ?_)
      all_goals (first | (simp; done) | omega | (simp; omega))
    case hstore =>
      repeat' (first | rfl | refine env_cons ?_ ?_ | refine st_cons ?_ ?_ ?_ ?_ | refine int_eq ?_ | refine bool_eq ?_ | refine rsl_eq ?_ | refine osl_eq ?_ | refine sl_eq ?_ ?_ ?_ | refine ptr_eq ?_ ?_ ?_ | refine agg_eq ?_ | refine es_cons ?_ ?_ | refine row_cons ?_ ?_)
      all_goals (first | (simp; done) | omega | (simp; omega))
    case hst =>
      first | trivial | omega | (simp; done) | (simp; omega)
  rintro mm ee ss kk ⟨j, g1, v1, g2, v2, rfl, rfl, rfl, hI⟩
  generalize hQl1 : thenQ _ _ = Ql1
  refine AW.seq fun K6 hK6 => ?_
  refine AW.seq fun K7 hK7 => ?_
  -- region 4
  refine AW.regionK 100 (fun _ => none) [0, 1, 2, 8, 9, 10, 11, 27] [122, 124] ?_
  simp only [go_sem, reduceIte, reduceCtorEq, Nat.reduceAdd, Nat.reduceMul, Nat.reduceEqDiff, Nat.reduceLT, Nat.reduceLeDiff, Nat.reduceSub, Nat.reducePow, Nat.reduceBEq, Int.reduceToNat, List.reduceReplicate, ints_len, bools_len, hRl]
  repeat with_reducible refine cj ?_ ?_
  all_goals try first | omega
  refine hK7 _ _ _ ?_; clear hK7
  -- cond 1
  refine AW.cond rfl (by simp only [go_sem, reduceIte, reduceCtorEq, Nat.reduceAdd, Nat.reduceMul, Nat.reduceEqDiff, Nat.reduceLT, Nat.reduceLeDiff, Nat.reduceSub, Nat.reducePow, Nat.reduceBEq, Int.reduceToNat, List.reduceReplicate]) ?_ ?_
  · intro hb
    try simp only [hB, decide_eq_true_eq, decide_eq_false_iff_not] at hb
    have hfl := fillT_len (n := n) (j := j) (by omega)
    have hus := bools_upd (fillT n j) j true
    rw [fillT_succ (by omega)] at hus
    refine AW.skip ?_
    refine hK6 _ _ _ ?_; clear hK6
    refine AW.seq fun K8 hK8 => ?_
    refine AW.block ?_
    -- region 6
    refine AW.regionK 100 (fun _ => none) [0, 1, 2, 8, 9, 10, 11] [122, 124] ?_
    simp only [go_sem, reduceIte, reduceCtorEq, Nat.reduceAdd, Nat.reduceMul, Nat.reduceEqDiff, Nat.reduceLT, Nat.reduceLeDiff, Nat.reduceSub, Nat.reducePow, Nat.reduceBEq, Int.reduceToNat, List.reduceReplicate, ints_len, bools_len, hRl, hfl, hus]
    repeat with_reducible refine cj ?_ ?_
    all_goals try first | omega
    refine hK8 _ _ _ ?_; clear hK8
    -- region 5
    refine AW.regionK 100 (fun _ => none) [0, 1, 2, 8, 9, 10, 11] [122, 124] ?_
    simp only [go_sem, reduceIte, reduceCtorEq, Nat.reduceAdd, Nat.reduceMul, Nat.reduceEqDiff, Nat.reduceLT, Nat.reduceLeDiff, Nat.reduceSub, Nat.reducePow, Nat.reduceBEq, Int.reduceToNat, List.reduceReplicate, ints_len, bools_len, hRl]
    repeat with_reducible refine cj ?_ ?_
    all_goals try first | omega
    rw [← hQl1]
    change Exists _
    refine ⟨_, ?hm, j + 1, ?_, ?_, ?_, ?_, rfl, ?henv, ?hstore, ?hst⟩
    case henv =>
      repeat' (first | rfl | refine env_cons ?_ ?_ | refine st_cons ?_ ?_ ?_ ?_ | refine int_eq ?_ | refine bool_eq ?_ | refine rsl_eq ?_ | refine osl_eq ?_ | refine sl_eq ?_ ?_ ?_ | refine ptr_eq ?_ ?_ ?_ | refine agg_eq ?_ | refine es_cons ?_ ?_ | refine row_cons ?_ ?_)
      all_goals (first | (simp; done) | omega | (simp; omega))
    case hstore =>
      repeat' (first | rfl | refine env_cons ?_ ?_ | refine st_cons ?_ ?_ ?_ ?_ | refine int_eq ?_ | refine bool_eq ?_ | refine rsl_eq ?_ | refine osl_eq ?_ | refine sl_eq ?_ ?_ ?_ | refine ptr_eq ?_ ?_ ?_ | refine agg_eq ?_ | refine es_cons ?_ ?_ | refine row_cons ?_ ?_)
      all_goals (first | (simp; done) | omega | (simp; omega))
    case hst =>
      first | trivial | omega | (simp; done) | (simp; omega)
    case hm => omega
  · intro hb
    try simp only [hB, decide_eq_true_eq, decide_eq_false_iff_not] at hb
    have hj : n = j := by omega
    subst hj
    rw [fillT_all]
    refine AW.keep [1, 2, 8, 9, 10] [122, 124] ?_
    try simp only [go_sem, reduceIte, reduceCtorEq, Nat.reduceAdd, Nat.reduceMul, Nat.reduceEqDiff, Nat.reduceLT, Nat.reduceLeDiff, Nat.reduceSub, Nat.reducePow, Nat.reduceBEq, Int.reduceToNat, List.reduceReplicate]
    refine AW.exit ?_
    rw [← hQl1]
    refine hK4 _ _ _ ?_; clear hK4
    refine AW.seq fun K9 hK9 => ?_
    refine AW.seq fun K10 hK10 => ?_
    -- region 7
    refine AW.regionK 100 (fun _ => none) [1, 2, 8, 9, 10, 12] [122, 124] ?_
    simp only [go_sem, reduceIte, reduceCtorEq, Nat.reduceAdd, Nat.reduceMul, Nat.reduceEqDiff, Nat.reduceLT, Nat.reduceLeDiff, Nat.reduceSub, Nat.reducePow, Nat.reduceBEq, Int.reduceToNat, List.reduceReplicate, ints_len, bools_len, hRl]
    repeat with_reducible refine cj ?_ ?_
    all_goals try first | omega
    refine hK10 _ _ _ ?_; clear hK10
    refine AW.block ?_
    -- loop 2
    refine AW.loopE (fun mm ee ss kk => ∃ (j g1 v1 g2 v2 : Nat), m - j = mm ∧ ee = [(1, .int .i64 m), (2, .rsl 2 (E.map pairV)), (8, .rsl 1 (ints R)), (9, .sl ⟨122, g1, none⟩ 0 n none), (10, .sl ⟨124, g2, none⟩ 0 m none), (12, .int .i64 (j : Nat))] ∧ ss = [(122, some ⟨g1, v1, 1, bools (freeF R n j)⟩), (124, some ⟨g2, v2, 1, bools (List.replicate m false)⟩)] ∧ (j ≤ m)) ?_ ?_
    · refine ⟨_, 0, ?_, ?_, ?_, ?_, rfl, ?henv, ?hstore, ?hst⟩
      case henv =>
        repeat' (first | rfl | refine env_cons ?_ ?_ | refine st_cons ?_ ?_ ?_ ?_ | refine int_eq ?_ | refine bool_eq ?_ | refine rsl_eq ?_ | refine osl_eq ?_ | refine sl_eq ?_ ?_ ?_ | refine ptr_eq ?_ ?_ ?_ | refine agg_eq ?_ | refine es_cons ?_ ?_ | refine row_cons ?_ ?_)
        all_goals (first | (simp; done) | omega | (simp; omega))
      case hstore =>
        repeat' (first | rfl | refine env_cons ?_ ?_ | refine st_cons ?_ ?_ ?_ ?_ | refine int_eq ?_ | refine bool_eq ?_ | refine rsl_eq ?_ | refine osl_eq ?_ | refine sl_eq ?_ ?_ ?_ | refine ptr_eq ?_ ?_ ?_ | refine agg_eq ?_ | refine es_cons ?_ ?_ | refine row_cons ?_ ?_)
        all_goals (first | (simp; done) | omega | (simp; omega))
      case hst =>
        first | trivial | omega | (simp; done) | (simp; omega)
    rintro mm ee ss kk ⟨j, g1, v1, g2, v2, rfl, rfl, rfl, hI⟩
    generalize hQl2 : thenQ _ _ = Ql2
    refine AW.seq fun K11 hK11 => ?_
    refine AW.seq fun K12 hK12 => ?_
    -- region 8
    refine AW.regionK 100 (fun _ => none) [1, 2, 8, 9, 10, 12, 35] [122, 124] ?_
    simp only [go_sem, reduceIte, reduceCtorEq, Nat.reduceAdd, Nat.reduceMul, Nat.reduceEqDiff, Nat.reduceLT, Nat.reduceLeDiff, Nat.reduceSub, Nat.reducePow, Nat.reduceBEq, Int.reduceToNat, List.reduceReplicate, ints_len, bools_len, hRl]
    repeat with_reducible refine cj ?_ ?_
    all_goals try first | omega
    refine hK12 _ _ _ ?_; clear hK12
    -- cond 2
    refine AW.cond rfl (by simp only [go_sem, reduceIte, reduceCtorEq, Nat.reduceAdd, Nat.reduceMul, Nat.reduceEqDiff, Nat.reduceLT, Nat.reduceLeDiff, Nat.reduceSub, Nat.reducePow, Nat.reduceBEq, Int.reduceToNat, List.reduceReplicate]) ?_ ?_
    · intro hb
      try simp only [hB, decide_eq_true_eq, decide_eq_false_iff_not] at hb
      have hfl := freeF_len R n j
      have hgR := ints_getD (l := R) (i := j) (by omega)
      have hrn := hRn j
      rw [← gi_eq (by omega)] at hrn
      have hus := bools_upd (freeF R n j) (R.getD j 0).toNat false
      have hsu : freeF R n (j + 1) = if 0 ≤ R.getD j 0 then (freeF R n j).set (R.getD j 0).toNat false else freeF R n j := rfl
      refine AW.skip ?_
      refine hK11 _ _ _ ?_; clear hK11
      refine AW.seq fun K13 hK13 => ?_
      refine AW.block ?_
      refine AW.seq fun K14 hK14 => ?_
      -- region 10
      refine AW.regionK 100 (fun _ => none) [1, 2, 8, 9, 10, 12, 42] [122, 124] ?_
      simp only [go_sem, reduceIte, reduceCtorEq, Nat.reduceAdd, Nat.reduceMul, Nat.reduceEqDiff, Nat.reduceLT, Nat.reduceLeDiff, Nat.reduceSub, Nat.reducePow, Nat.reduceBEq, Int.reduceToNat, List.reduceReplicate, ints_len, bools_len, hRl, hgR]
      repeat with_reducible refine cj ?_ ?_
      all_goals try first | omega
      refine hK14 _ _ _ ?_; clear hK14
      -- cond 3
      refine AW.cond rfl (by simp only [go_sem, reduceIte, reduceCtorEq, Nat.reduceAdd, Nat.reduceMul, Nat.reduceEqDiff, Nat.reduceLT, Nat.reduceLeDiff, Nat.reduceSub, Nat.reducePow, Nat.reduceBEq, Int.reduceToNat, List.reduceReplicate]) ?_ ?_
      · intro hb
        try simp only [hB, decide_eq_true_eq, decide_eq_false_iff_not] at hb
        rw [if_pos hb] at hsu
        -- region 11
        refine AW.regionK 100 (fun _ => none) [1, 2, 8, 9, 10, 12] [122, 124] ?_
        simp only [go_sem, reduceIte, reduceCtorEq, Nat.reduceAdd, Nat.reduceMul, Nat.reduceEqDiff, Nat.reduceLT, Nat.reduceLeDiff, Nat.reduceSub, Nat.reducePow, Nat.reduceBEq, Int.reduceToNat, List.reduceReplicate, ints_len, bools_len, hRl, hgR, hfl, hus]
        repeat with_reducible refine cj ?_ ?_
        all_goals try first | omega
        refine hK13 _ _ _ ?_; clear hK13
        -- region 9
        refine AW.regionK 100 (fun _ => none) [1, 2, 8, 9, 10, 12] [122, 124] ?_
        simp only [go_sem, reduceIte, reduceCtorEq, Nat.reduceAdd, Nat.reduceMul, Nat.reduceEqDiff, Nat.reduceLT, Nat.reduceLeDiff, Nat.reduceSub, Nat.reducePow, Nat.reduceBEq, Int.reduceToNat, List.reduceReplicate, ints_len, bools_len, hRl]
        repeat with_reducible refine cj ?_ ?_
        all_goals try first | omega
        rw [← hQl2]
        change Exists _
        refine ⟨_, ?hm, j + 1, ?_, ?_, ?_, ?_, rfl, ?henv, ?hstore, ?hst⟩
        case henv =>
          repeat' (first | rfl | refine env_cons ?_ ?_ | refine st_cons ?_ ?_ ?_ ?_ | refine int_eq ?_ | refine bool_eq ?_ | refine rsl_eq ?_ | refine osl_eq ?_ | refine sl_eq ?_ ?_ ?_ | refine ptr_eq ?_ ?_ ?_ | refine agg_eq ?_ | refine es_cons ?_ ?_ | refine row_cons ?_ ?_)
          all_goals (first | (simp; done) | omega | (simp; omega))
        case hstore =>
          repeat' (first | rfl | refine env_cons ?_ ?_ | refine st_cons ?_ ?_ ?_ ?_ | refine int_eq ?_ | refine bool_eq ?_ | refine rsl_eq ?_ | refine osl_eq ?_ | refine sl_eq ?_ ?_ ?_ | refine ptr_eq ?_ ?_ ?_ | refine agg_eq ?_ | refine es_cons ?_ ?_ | refine row_cons ?_ ?_)
          all_goals (rw [hsu])
        case hst =>
          first | trivial | omega | (simp; done) | (simp; omega)
        case hm => omega
      · intro hb
        try simp only [hB, decide_eq_true_eq, decide_eq_false_iff_not] at hb
        rw [if_neg (by omega)] at hsu
        refine AW.skip ?_
        refine hK13 _ _ _ ?_; clear hK13
        -- region 9
        refine AW.regionK 100 (fun _ => none) [1, 2, 8, 9, 10, 12] [122, 124] ?_
        simp only [go_sem, reduceIte, reduceCtorEq, Nat.reduceAdd, Nat.reduceMul, Nat.reduceEqDiff, Nat.reduceLT, Nat.reduceLeDiff, Nat.reduceSub, Nat.reducePow, Nat.reduceBEq, Int.reduceToNat, List.reduceReplicate, ints_len, bools_len, hRl]
        repeat with_reducible refine cj ?_ ?_
        all_goals try first | omega
        rw [← hQl2]
        change Exists _
        refine ⟨_, ?hm, j + 1, ?_, ?_, ?_, ?_, rfl, ?henv, ?hstore, ?hst⟩
        case henv =>
          repeat' (first | rfl | refine env_cons ?_ ?_ | refine st_cons ?_ ?_ ?_ ?_ | refine int_eq ?_ | refine bool_eq ?_ | refine rsl_eq ?_ | refine osl_eq ?_ | refine sl_eq ?_ ?_ ?_ | refine ptr_eq ?_ ?_ ?_ | refine agg_eq ?_ | refine es_cons ?_ ?_ | refine row_cons ?_ ?_)
          all_goals (first | (simp; done) | omega | (simp; omega))
        case hstore =>
          repeat' (first | rfl | refine env_cons ?_ ?_ | refine st_cons ?_ ?_ ?_ ?_ | refine int_eq ?_ | refine bool_eq ?_ | refine rsl_eq ?_ | refine osl_eq ?_ | refine sl_eq ?_ ?_ ?_ | refine ptr_eq ?_ ?_ ?_ | refine agg_eq ?_ | refine es_cons ?_ ?_ | refine row_cons ?_ ?_)
          all_goals (rw [hsu])
        case hst =>
          first | trivial | omega | (simp; done) | (simp; omega)
        case hm => omega
    · intro hb
      try simp only [hB, decide_eq_true_eq, decide_eq_false_iff_not] at hb
      have hj : m = j := by omega
      subst hj
      refine AW.keep [2, 8, 9, 10] [122, 124] ?_
      try simp only [go_sem, reduceIte, reduceCtorEq, Nat.reduceAdd, Nat.reduceMul, Nat.reduceEqDiff, Nat.reduceLT, Nat.reduceLeDiff, Nat.reduceSub, Nat.reducePow, Nat.reduceBEq, Int.reduceToNat, List.reduceReplicate]
      refine AW.exit ?_
      rw [← hQl2]
      refine hK9 _ _ _ ?_; clear hK9
      refine AW.seq fun K15 hK15 => ?_
      refine AW.seq fun K16 hK16 => ?_
      -- region 12
      refine AW.regionK 100 (fun _ => none) [2, 8, 9, 10, 13] [122, 124] ?_
      simp only [go_sem, reduceIte, reduceCtorEq, Nat.reduceAdd, Nat.reduceMul, Nat.reduceEqDiff, Nat.reduceLT, Nat.reduceLeDiff, Nat.reduceSub, Nat.reducePow, Nat.reduceBEq, Int.reduceToNat, List.reduceReplicate, ints_len, bools_len, hRl]
      repeat with_reducible refine cj ?_ ?_
      all_goals try first | omega
      refine hK16 _ _ _ ?_; clear hK16
      refine AW.block ?_
      -- loop 3
      refine AW.loopE (fun mm ee ss kk => ∃ (fu g1 v1 g2 v2 : Nat) (ch : Bool) (t : FSt), (cond ch (fu + 1) 0) = mm ∧ ee = [(2, .rsl 2 (E.map pairV)), (8, .rsl 1 (ints R)), (9, .sl ⟨122, g1, none⟩ 0 n none), (10, .sl ⟨124, g2, none⟩ 0 m none), (13, .bool ch)] ∧ ss = [(122, some ⟨g1, v1, 1, bools t.1⟩), (124, some ⟨g2, v2, 1, bools t.2⟩)] ∧ (FIv n m nb L R t ∧ (ch = true → uns t.2 < fu ∧ erun R E fu t = T) ∧ (ch = false → t = T))) ?_ ?_
      · refine ⟨_, (m + 1), ?_, ?_, ?_, ?_, true, (freeF R n m, List.replicate m false), rfl, ?henv, ?hstore, ?hst⟩
        case henv =>
          repeat' (first | rfl | refine env_cons ?_ ?_ | refine st_cons ?_ ?_ ?_ ?_ | refine int_eq ?_ | refine bool_eq ?_ | refine rsl_eq ?_ | refine osl_eq ?_ | refine sl_eq ?_ ?_ ?_ | refine ptr_eq ?_ ?_ ?_ | refine agg_eq ?_ | refine es_cons ?_ ?_ | refine row_cons ?_ ?_)
          all_goals (first | (simp; done) | omega | (simp; omega))
        case hstore =>
          repeat' (first | rfl | refine env_cons ?_ ?_ | refine st_cons ?_ ?_ ?_ ?_ | refine int_eq ?_ | refine bool_eq ?_ | refine rsl_eq ?_ | refine osl_eq ?_ | refine sl_eq ?_ ?_ ?_ | refine ptr_eq ?_ ?_ ?_ | refine agg_eq ?_ | refine es_cons ?_ ?_ | refine row_cons ?_ ?_)
          all_goals (first | (simp; done) | omega | (simp; omega))
        case hst =>
          exact ⟨h0, fun _ => ⟨by rw [uns_replicate]; omega, hT⟩, fun h => by cases h⟩
      rintro mm ee ss kk ⟨fu, g1, v1, g2, v2, ch, t, rfl, rfl, rfl, hI⟩
      generalize hQl3 : thenQ _ _ = Ql3
      obtain ⟨hF, hc1, hc2⟩ := hI
      refine AW.seq fun K17 hK17 => ?_
      refine AW.seq fun K18 hK18 => ?_
      -- region 13
      refine AW.regionK 100 (fun _ => none) [2, 8, 9, 10, 49] [122, 124] ?_
      simp only [go_sem, reduceIte, reduceCtorEq, Nat.reduceAdd, Nat.reduceMul, Nat.reduceEqDiff, Nat.reduceLT, Nat.reduceLeDiff, Nat.reduceSub, Nat.reducePow, Nat.reduceBEq, Int.reduceToNat, List.reduceReplicate, ints_len, bools_len, hRl]
      repeat with_reducible refine cj ?_ ?_
      all_goals try first | omega
      refine hK18 _ _ _ ?_; clear hK18
      -- cond 4
      refine AW.cond rfl (by simp only [go_sem, reduceIte, reduceCtorEq, Nat.reduceAdd, Nat.reduceMul, Nat.reduceEqDiff, Nat.reduceLT, Nat.reduceLeDiff, Nat.reduceSub, Nat.reducePow, Nat.reduceBEq, Int.reduceToNat, List.reduceReplicate]) ?_ ?_
      · intro hb
        try simp only [hB, decide_eq_true_eq, decide_eq_false_iff_not] at hb
        subst hb
        obtain ⟨hu, hrun⟩ := hc1 rfl
        obtain ⟨fu, rfl⟩ : ∃ f, fu = f + 1 := ⟨fu - 1, by omega⟩
        have hal := eall_iv hRl hRn E (t, false) hEd hF
        unfold erun at hrun
        generalize hU : eall R E (t, false) = U at *
        simp only at hrun
        refine AW.skip ?_
        refine hK17 _ _ _ ?_; clear hK17
        refine AW.block ?_
        refine AW.seq fun K19 hK19 => ?_
        -- region 14
        refine AW.regionK 100 (fun _ => none) [2, 8, 9, 10, 13] [122, 124] ?_
        simp only [go_sem, reduceIte, reduceCtorEq, Nat.reduceAdd, Nat.reduceMul, Nat.reduceEqDiff, Nat.reduceLT, Nat.reduceLeDiff, Nat.reduceSub, Nat.reducePow, Nat.reduceBEq, Int.reduceToNat, List.reduceReplicate, ints_len, bools_len, hRl]
        repeat with_reducible refine cj ?_ ?_
        all_goals try first | omega
        refine hK19 _ _ _ ?_; clear hK19
        refine AW.seq fun K20 hK20 => ?_
        -- region 15
        refine AW.regionK 100 (fun _ => none) [2, 8, 9, 10, 13, 14] [122, 124] ?_
        simp only [go_sem, reduceIte, reduceCtorEq, Nat.reduceAdd, Nat.reduceMul, Nat.reduceEqDiff, Nat.reduceLT, Nat.reduceLeDiff, Nat.reduceSub, Nat.reducePow, Nat.reduceBEq, Int.reduceToNat, List.reduceReplicate, ints_len, bools_len, hRl]
        repeat with_reducible refine cj ?_ ?_
        all_goals try first | omega
        refine hK20 _ _ _ ?_; clear hK20
        refine AW.block ?_
        -- loop 4
        refine AW.loopE (fun mm ee ss kk => ∃ (j g1 v1 g2 v2 : Nat) (u : FSt × Bool), E.length - j = mm ∧ ee = [(2, .rsl 2 (E.map pairV)), (8, .rsl 1 (ints R)), (9, .sl ⟨122, g1, none⟩ 0 n none), (10, .sl ⟨124, g2, none⟩ 0 m none), (13, .bool u.2), (14, .int .i64 (j : Nat))] ∧ ss = [(122, some ⟨g1, v1, 1, bools u.1.1⟩), (124, some ⟨g2, v2, 1, bools u.1.2⟩)] ∧ (j ≤ E.length ∧ FIv n m nb L R u.1 ∧ eall R (E.drop j) u = U)) ?_ ?_
        · refine ⟨_, 0, ?_, ?_, ?_, ?_, (t, false), rfl, ?henv, ?hstore, ?hst⟩
          case henv =>
            repeat' (first | rfl | refine env_cons ?_ ?_ | refine st_cons ?_ ?_ ?_ ?_ | refine int_eq ?_ | refine bool_eq ?_ | refine rsl_eq ?_ | refine osl_eq ?_ | refine sl_eq ?_ ?_ ?_ | refine ptr_eq ?_ ?_ ?_ | refine agg_eq ?_ | refine es_cons ?_ ?_ | refine row_cons ?_ ?_)
            all_goals (first | (simp; done) | omega | (simp; omega))
          case hstore =>
            repeat' (first | rfl | refine env_cons ?_ ?_ | refine st_cons ?_ ?_ ?_ ?_ | refine int_eq ?_ | refine bool_eq ?_ | refine rsl_eq ?_ | refine osl_eq ?_ | refine sl_eq ?_ ?_ ?_ | refine ptr_eq ?_ ?_ ?_ | refine agg_eq ?_ | refine es_cons ?_ ?_ | refine row_cons ?_ ?_)
            all_goals (first | (simp; done) | omega | (simp; omega))
          case hst =>
            exact ⟨by omega, hF, hU⟩
        rintro mm ee ss kk ⟨j, g1, v1, g2, v2, u, rfl, rfl, rfl, hI⟩
        generalize hQl4 : thenQ _ _ = Ql4
        obtain ⟨hj, hFu, hro⟩ := hI
        have hl1 := hFu.h1
        have hl2 := hFu.h2
        refine AW.seq fun K21 hK21 => ?_
        refine AW.seq fun K22 hK22 => ?_
        -- region 16
        refine AW.regionK 100 (fun _ => none) [2, 8, 9, 10, 13, 14, 53] [122, 124] ?_
        simp only [go_sem, reduceIte, reduceCtorEq, Nat.reduceAdd, Nat.reduceMul, Nat.reduceEqDiff, Nat.reduceLT, Nat.reduceLeDiff, Nat.reduceSub, Nat.reducePow, Nat.reduceBEq, Int.reduceToNat, List.reduceReplicate, ints_len, bools_len, hRl]
        repeat with_reducible refine cj ?_ ?_
        all_goals try first | omega
        refine hK22 _ _ _ ?_; clear hK22
        -- cond 5
        refine AW.cond rfl (by simp only [go_sem, reduceIte, reduceCtorEq, Nat.reduceAdd, Nat.reduceMul, Nat.reduceEqDiff, Nat.reduceLT, Nat.reduceLeDiff, Nat.reduceSub, Nat.reducePow, Nat.reduceBEq, Int.reduceToNat, List.reduceReplicate]) ?_ ?_
        · intro hb
          try simp only [hB, decide_eq_true_eq, decide_eq_false_iff_not] at hb
          obtain ⟨e, he⟩ := getI (l := E) (j := j) (by omega)
          have hge := getV (f := pairV) he
          have hei := hEd e (List.mem_of_getElem? he)
          obtain ⟨q1, q2, q3, q4⟩ := edgeIn_iff.1 hei.1
          have hdr : E.drop j = e :: E.drop (j + 1) := by rw [List.drop_eq_getElem_cons (by omega)]; congr 1; exact (List.getElem?_eq_some_iff.1 he).2
          rw [hdr] at hro
          unfold eall at hro
          have hst := (eone_iv hRl hRn hFu hei.1 hei.2).1
          have hg1 := bools_getD (l := u.1.1) (i := e.1.toNat) (by omega)
          have hg2 := bools_getD (l := u.1.2) (i := e.2.toNat) (by omega)
          have hgR := ints_getD (l := R) (i := e.2.toNat) (by omega)
          have hrn := hRn e.2.toNat
          rw [← gi_eq (by omega)] at hrn
          have hu2 := bools_upd u.1.2 e.2.toNat true
          have hu1 := bools_upd u.1.1 (R.getD e.2.toNat 0).toNat true
          have hstd : eone R e u = eone R e u := rfl
          unfold eone at hst hro
          clear hstd
          refine AW.skip ?_
          refine hK21 _ _ _ ?_; clear hK21
          refine AW.seq fun K23 hK23 => ?_
          refine AW.block ?_
          refine AW.seq fun K24 hK24 => ?_
          -- region 18
          refine AW.regionD mixed 100 (fun _ => none) [2, 8, 9, 10, 13, 14, 15, 16] [122, 124] ?_
          simp only [go_sem, reduceIte, reduceCtorEq, Nat.reduceAdd, Nat.reduceMul, Nat.reduceEqDiff, Nat.reduceLT, Nat.reduceLeDiff, Nat.reduceSub, Nat.reducePow, Nat.reduceBEq, Int.reduceToNat, List.reduceReplicate, ints_len, bools_len, hRl, hge, pairV]
          repeat with_reducible refine cj ?_ ?_
          all_goals try first | omega | exact chk (by kernel_rfl)
          refine hK24 _ _ _ ?_; clear hK24
          refine AW.seq fun K25 hK25 => ?_
          refine AW.seq fun K26 hK26 => ?_
          -- region 19
          refine AW.regionK 100 (fun _ => none) [2, 8, 9, 10, 13, 14, 16, 76] [122, 124] ?_
          simp only [go_sem, reduceIte, reduceCtorEq, Nat.reduceAdd, Nat.reduceMul, Nat.reduceEqDiff, Nat.reduceLT, Nat.reduceLeDiff, Nat.reduceSub, Nat.reducePow, Nat.reduceBEq, Int.reduceToNat, List.reduceReplicate, ints_len, bools_len, hRl, hl1, hl2, hg1, hg2]
          repeat with_reducible refine cj ?_ ?_
          all_goals try first | omega | (intros; (repeat' apply And.intro) <;> first | assumption | omega | decide) | (intro hgd; exact absurd hgd (by decide)) | rfl | (simp only [go_sem, reduceIte, reduceCtorEq, Nat.reduceAdd, Nat.reduceMul, Nat.reduceEqDiff, Nat.reduceLT, Nat.reduceLeDiff, Nat.reduceSub, Nat.reducePow, Nat.reduceBEq, Int.reduceToNat, List.reduceReplicate, ints_len, bools_len, hRl, hl1, hl2, hg1, hg2]; done) | (intro _hgd; simp_all [go_sem]; done)
          refine hK26 _ _ _ ?_; clear hK26
          -- cond 6
          refine AW.cond rfl (by simp only [go_sem, reduceIte, reduceCtorEq, Nat.reduceAdd, Nat.reduceMul, Nat.reduceEqDiff, Nat.reduceLT, Nat.reduceLeDiff, Nat.reduceSub, Nat.reducePow, Nat.reduceBEq, Int.reduceToNat, List.reduceReplicate]) ?_ ?_
          · intro hb
            try simp only [hB, decide_eq_true_eq, decide_eq_false_iff_not] at hb
            rw [if_pos (by simpa using hb)] at hst hro
            obtain ⟨w, hw⟩ : ∃ w, w = u := ⟨_, rfl⟩
            refine AW.keep [2, 8, 9, 10, 13, 14] [122, 124] ?_
            try simp only [go_sem, reduceIte, reduceCtorEq, Nat.reduceAdd, Nat.reduceMul, Nat.reduceEqDiff, Nat.reduceLT, Nat.reduceLeDiff, Nat.reduceSub, Nat.reducePow, Nat.reduceBEq, Int.reduceToNat, List.reduceReplicate]
            refine AW.exit ?_
            refine hK23 _ _ _ ?_; clear hK23
            -- region 17
            refine AW.regionK 100 (fun _ => none) [2, 8, 9, 10, 13, 14] [122, 124] ?_
            simp only [go_sem, reduceIte, reduceCtorEq, Nat.reduceAdd, Nat.reduceMul, Nat.reduceEqDiff, Nat.reduceLT, Nat.reduceLeDiff, Nat.reduceSub, Nat.reducePow, Nat.reduceBEq, Int.reduceToNat, List.reduceReplicate, ints_len, bools_len, hRl]
            repeat with_reducible refine cj ?_ ?_
            all_goals try first | omega
            rw [← hQl4]
            change Exists _
            refine ⟨_, ?hm, j + 1, ?_, ?_, ?_, ?_, w, rfl, ?henv, ?hstore, ?hst⟩
            case henv =>
              repeat' (first | rfl | refine env_cons ?_ ?_ | refine st_cons ?_ ?_ ?_ ?_ | refine int_eq ?_ | refine bool_eq ?_ | refine rsl_eq ?_ | refine osl_eq ?_ | refine sl_eq ?_ ?_ ?_ | refine ptr_eq ?_ ?_ ?_ | refine agg_eq ?_ | refine es_cons ?_ ?_ | refine row_cons ?_ ?_)
              all_goals (first | (rw [hw]; done) | (rw [hw]; simp; done) | omega | (simp; done))
            case hstore =>
              repeat' (first | rfl | refine env_cons ?_ ?_ | refine st_cons ?_ ?_ ?_ ?_ | refine int_eq ?_ | refine bool_eq ?_ | refine rsl_eq ?_ | refine osl_eq ?_ | refine sl_eq ?_ ?_ ?_ | refine ptr_eq ?_ ?_ ?_ | refine agg_eq ?_ | refine es_cons ?_ ?_ | refine row_cons ?_ ?_)
              all_goals (rw [hw])
            case hst =>
              rw [← hw] at hst hro
              exact ⟨by omega, hst, hro⟩
            case hm => omega
          · intro hb
            try simp only [hB, decide_eq_true_eq, decide_eq_false_iff_not] at hb
            rw [if_neg (by simpa using hb)] at hst hro
            refine AW.skip ?_
            refine hK25 _ _ _ ?_; clear hK25
            refine AW.seq fun K27 hK27 => ?_
            -- region 20
            refine AW.regionK 100 (fun _ => none) [2, 8, 9, 10, 14, 16] [122, 124] ?_
            simp only [go_sem, reduceIte, reduceCtorEq, Nat.reduceAdd, Nat.reduceMul, Nat.reduceEqDiff, Nat.reduceLT, Nat.reduceLeDiff, Nat.reduceSub, Nat.reducePow, Nat.reduceBEq, Int.reduceToNat, List.reduceReplicate, ints_len, bools_len, hRl, hl2, hu2]
            repeat with_reducible refine cj ?_ ?_
            all_goals try first | omega
            refine hK27 _ _ _ ?_; clear hK27
            refine AW.seq fun K28 hK28 => ?_
            -- region 21
            refine AW.regionK 100 (fun _ => none) [2, 8, 9, 10, 13, 14, 16] [122, 124] ?_
            simp only [go_sem, reduceIte, reduceCtorEq, Nat.reduceAdd, Nat.reduceMul, Nat.reduceEqDiff, Nat.reduceLT, Nat.reduceLeDiff, Nat.reduceSub, Nat.reducePow, Nat.reduceBEq, Int.reduceToNat, List.reduceReplicate, ints_len, bools_len, hRl]
            repeat with_reducible refine cj ?_ ?_
            all_goals try first | omega
            refine hK28 _ _ _ ?_; clear hK28
            refine AW.seq fun K29 hK29 => ?_
            -- region 22
            refine AW.regionK 100 (fun _ => none) [2, 8, 9, 10, 13, 14, 16, 84] [122, 124] ?_
            simp only [go_sem, reduceIte, reduceCtorEq, Nat.reduceAdd, Nat.reduceMul, Nat.reduceEqDiff, Nat.reduceLT, Nat.reduceLeDiff, Nat.reduceSub, Nat.reducePow, Nat.reduceBEq, Int.reduceToNat, List.reduceReplicate, ints_len, bools_len, hRl, hgR]
            repeat with_reducible refine cj ?_ ?_
            all_goals try first | omega
            refine hK29 _ _ _ ?_; clear hK29
            -- cond 7
            refine AW.cond rfl (by simp only [go_sem, reduceIte, reduceCtorEq, Nat.reduceAdd, Nat.reduceMul, Nat.reduceEqDiff, Nat.reduceLT, Nat.reduceLeDiff, Nat.reduceSub, Nat.reducePow, Nat.reduceBEq, Int.reduceToNat, List.reduceReplicate]) ?_ ?_
            · intro hb
              try simp only [hB, decide_eq_true_eq, decide_eq_false_iff_not] at hb
              rw [if_pos hb] at hst hro
              obtain ⟨w, hw⟩ : ∃ w : FSt × Bool, w = ((u.1.1.set (R.getD e.2.toNat 0).toNat true, u.1.2.set e.2.toNat true), true) := ⟨_, rfl⟩
              -- region 23
              refine AW.regionK 100 (fun _ => none) [2, 8, 9, 10, 13, 14] [122, 124] ?_
              simp only [go_sem, reduceIte, reduceCtorEq, Nat.reduceAdd, Nat.reduceMul, Nat.reduceEqDiff, Nat.reduceLT, Nat.reduceLeDiff, Nat.reduceSub, Nat.reducePow, Nat.reduceBEq, Int.reduceToNat, List.reduceReplicate, ints_len, bools_len, hRl, hgR, hl1, hu1]
              repeat with_reducible refine cj ?_ ?_
              all_goals try first | omega
              refine hK23 _ _ _ ?_; clear hK23
              -- region 17
              refine AW.regionK 100 (fun _ => none) [2, 8, 9, 10, 13, 14] [122, 124] ?_
              simp only [go_sem, reduceIte, reduceCtorEq, Nat.reduceAdd, Nat.reduceMul, Nat.reduceEqDiff, Nat.reduceLT, Nat.reduceLeDiff, Nat.reduceSub, Nat.reducePow, Nat.reduceBEq, Int.reduceToNat, List.reduceReplicate, ints_len, bools_len, hRl]
              repeat with_reducible refine cj ?_ ?_
              all_goals try first | omega
              rw [← hQl4]
              change Exists _
              refine ⟨_, ?hm, j + 1, ?_, ?_, ?_, ?_, w, rfl, ?henv, ?hstore, ?hst⟩
              case henv =>
                repeat' (first | rfl | refine env_cons ?_ ?_ | refine st_cons ?_ ?_ ?_ ?_ | refine int_eq ?_ | refine bool_eq ?_ | refine rsl_eq ?_ | refine osl_eq ?_ | refine sl_eq ?_ ?_ ?_ | refine ptr_eq ?_ ?_ ?_ | refine agg_eq ?_ | refine es_cons ?_ ?_ | refine row_cons ?_ ?_)
                all_goals (first | (rw [hw]; done) | (rw [hw]; simp; done) | omega | (simp; done))
              case hstore =>
                repeat' (first | rfl | refine env_cons ?_ ?_ | refine st_cons ?_ ?_ ?_ ?_ | refine int_eq ?_ | refine bool_eq ?_ | refine rsl_eq ?_ | refine osl_eq ?_ | refine sl_eq ?_ ?_ ?_ | refine ptr_eq ?_ ?_ ?_ | refine agg_eq ?_ | refine es_cons ?_ ?_ | refine row_cons ?_ ?_)
                all_goals (rw [hw])
              case hst =>
                rw [← hw] at hst hro
                exact ⟨by omega, hst, hro⟩
              case hm => omega
            · intro hb
              try simp only [hB, decide_eq_true_eq, decide_eq_false_iff_not] at hb
              rw [if_neg (by omega)] at hst hro
              obtain ⟨w, hw⟩ : ∃ w : FSt × Bool, w = ((u.1.1, u.1.2.set e.2.toNat true), true) := ⟨_, rfl⟩
              refine AW.skip ?_
              refine hK23 _ _ _ ?_; clear hK23
              -- region 17
              refine AW.regionK 100 (fun _ => none) [2, 8, 9, 10, 13, 14] [122, 124] ?_
              simp only [go_sem, reduceIte, reduceCtorEq, Nat.reduceAdd, Nat.reduceMul, Nat.reduceEqDiff, Nat.reduceLT, Nat.reduceLeDiff, Nat.reduceSub, Nat.reducePow, Nat.reduceBEq, Int.reduceToNat, List.reduceReplicate, ints_len, bools_len, hRl]
              repeat with_reducible refine cj ?_ ?_
              all_goals try first | omega
              rw [← hQl4]
              change Exists _
              refine ⟨_, ?hm, j + 1, ?_, ?_, ?_, ?_, w, rfl, ?henv, ?hstore, ?hst⟩
              case henv =>
                repeat' (first | rfl | refine env_cons ?_ ?_ | refine st_cons ?_ ?_ ?_ ?_ | refine int_eq ?_ | refine bool_eq ?_ | refine rsl_eq ?_ | refine osl_eq ?_ | refine sl_eq ?_ ?_ ?_ | refine ptr_eq ?_ ?_ ?_ | refine agg_eq ?_ | refine es_cons ?_ ?_ | refine row_cons ?_ ?_)
                all_goals (first | (rw [hw]; done) | (rw [hw]; simp; done) | omega | (simp; done))
              case hstore =>
                repeat' (first | rfl | refine env_cons ?_ ?_ | refine st_cons ?_ ?_ ?_ ?_ | refine int_eq ?_ | refine bool_eq ?_ | refine rsl_eq ?_ | refine osl_eq ?_ | refine sl_eq ?_ ?_ ?_ | refine ptr_eq ?_ ?_ ?_ | refine agg_eq ?_ | refine es_cons ?_ ?_ | refine row_cons ?_ ?_)
                all_goals (rw [hw])
              case hst =>
                rw [← hw] at hst hro
                exact ⟨by omega, hst, hro⟩
              case hm => omega
        · intro hb
          try simp only [hB, decide_eq_true_eq, decide_eq_false_iff_not] at hb
          have hj2 : j = E.length := by omega
          rw [hj2, List.drop_length] at hro
          unfold eall at hro
          subst hro
          obtain ⟨b1, b2, b3, b4⟩ := hal
          refine AW.keep [2, 8, 9, 10, 13] [122, 124] ?_
          try simp only [go_sem, reduceIte, reduceCtorEq, Nat.reduceAdd, Nat.reduceMul, Nat.reduceEqDiff, Nat.reduceLT, Nat.reduceLeDiff, Nat.reduceSub, Nat.reducePow, Nat.reduceBEq, Int.reduceToNat, List.reduceReplicate]
          refine AW.exit ?_
          rw [← hQl4]
          rw [← hQl3]
          change Exists _
          refine ⟨_, ?hm, fu, ?_, ?_, ?_, ?_, u.2, u.1, rfl, ?henv, ?hstore, ?hst⟩
          case henv =>
            repeat' (first | rfl | refine env_cons ?_ ?_ | refine st_cons ?_ ?_ ?_ ?_ | refine int_eq ?_ | refine bool_eq ?_ | refine rsl_eq ?_ | refine osl_eq ?_ | refine sl_eq ?_ ?_ ?_ | refine ptr_eq ?_ ?_ ?_ | refine agg_eq ?_ | refine es_cons ?_ ?_ | refine row_cons ?_ ?_)
            all_goals (first | (simp; done) | omega | (simp; omega))
          case hstore =>
            repeat' (first | rfl | refine env_cons ?_ ?_ | refine st_cons ?_ ?_ ?_ ?_ | refine int_eq ?_ | refine bool_eq ?_ | refine rsl_eq ?_ | refine osl_eq ?_ | refine sl_eq ?_ ?_ ?_ | refine ptr_eq ?_ ?_ ?_ | refine agg_eq ?_ | refine es_cons ?_ ?_ | refine row_cons ?_ ?_)
            all_goals (first | (simp; done) | omega | (simp; omega))
          case hst =>
            refine ⟨b1, fun hc => ?_, fun hc => ?_⟩
            · rw [if_pos hc] at hrun
              rcases b4 with ⟨b4, b5⟩ | ⟨b4, b5⟩
              · rw [b4] at hc; cases hc
              · exact ⟨by simp only at b5; omega, hrun⟩
            · rw [if_neg (by rw [hc]; simp)] at hrun
              exact hrun
          case hm => cases hcu : u.2 <;> simp
      · intro hb
        try simp only [hB, decide_eq_true_eq, decide_eq_false_iff_not] at hb
        have hTt := hc2 hb
        subst hTt
        have htk1 : (bools t.1).take n = bools t.1 := List.take_of_length_le (by rw [bools_len, hF.h1]; exact Nat.le_refl _)
        have htk2 : (bools t.2).take m = bools t.2 := List.take_of_length_le (by rw [bools_len, hF.h2]; exact Nat.le_refl _)
        refine AW.keep [9, 10] [122, 124] ?_
        try simp only [go_sem, reduceIte, reduceCtorEq, Nat.reduceAdd, Nat.reduceMul, Nat.reduceEqDiff, Nat.reduceLT, Nat.reduceLeDiff, Nat.reduceSub, Nat.reducePow, Nat.reduceBEq, Int.reduceToNat, List.reduceReplicate]
        refine AW.exit ?_
        rw [← hQl3]
        refine hK15 _ _ _ ?_; clear hK15
        refine AW.seq fun K30 hK30 => ?_
        -- region 24
        refine AW.regionK 100 (fun _ => none) [6, 7] [122, 124] ?_
        simp only [go_sem, reduceIte, reduceCtorEq, Nat.reduceAdd, Nat.reduceMul, Nat.reduceEqDiff, Nat.reduceLT, Nat.reduceLeDiff, Nat.reduceSub, Nat.reducePow, Nat.reduceBEq, Int.reduceToNat, List.reduceReplicate, ints_len, bools_len, hRl]
        repeat with_reducible refine cj ?_ ?_
        all_goals try first | omega
        refine hK30 _ _ _ ?_; clear hK30
        refine AW.ret ?_
        rw [← hQr]
        simp only [go_sem, reduceIte, reduceCtorEq, Nat.reduceAdd, Nat.reduceMul, Nat.reduceEqDiff, Nat.reduceLT, Nat.reduceLeDiff, Nat.reduceSub, Nat.reducePow, Nat.reduceBEq, Int.reduceToNat, List.reduceReplicate, ints_len, bools_len, hRl]
        refine ⟨[(122, 0, true), (124, 1, true)], ?_⟩
        simp only [go_sem, reduceIte, Nat.reduceEqDiff, renC_bools]
        first | rfl | exact ⟨rfl, rfl⟩
end Go.Proofs.M

namespace Go.Proofs.M
open Go.AM Go
set_option maxRecDepth 100000
set_option maxHeartbeats 2000000
end Go.Proofs.M

/- Matchings, covers, and deficiencies. -/
namespace Go.AM
theorem nodup_sub {α : Type} [DecidableEq α] : ∀ {l l' : List α}, l.Nodup → (∀ x ∈ l, x ∈ l') → l.length ≤ l'.length
  | [], _, _, _ => Nat.zero_le _
  | a :: l, l', h, hs => by
    have ha := hs a (by simp)
    obtain ⟨h1, h2⟩ := List.nodup_cons.1 h
    have := nodup_sub (l := l) (l' := l'.erase a) h2 fun x hx => by
      have hne : x ≠ a := fun e => h1 (by rw [← e]; exact hx)
      exact (List.mem_erase_of_ne hne).2 (hs x (by simp [hx]))
    rw [List.length_erase_of_mem ha] at this
    have := List.length_pos_of_mem ha
    simp only [List.length_cons]; omega
def cnt (p : Nat → Bool) (n : Nat) : Nat := ((List.range n).filter p).length
theorem cnt_succ (p : Nat → Bool) (n : Nat) : cnt p (n + 1) = cnt p n + if p n = true then 1 else 0 := by
  unfold cnt
  rw [List.range_succ, List.filter_append, List.length_append]
  by_cases h : p n = true <;> simp [h]
theorem cnt_inj {p q : Nat → Bool} {n m : Nat} (f : Nat → Nat) (h1 : ∀ i, i < n → p i = true → f i < m ∧ q (f i) = true) (h2 : ∀ i j, i < n → j < n → p i = true → p j = true → f i = f j → i = j) : cnt p n ≤ cnt q m := by
  have := nodup_sub (l := ((List.range n).filter p).map f) (l' := (List.range m).filter q) ?_ ?_
  · rw [List.length_map] at this; exact this
  · refine List.pairwise_map.2 (List.Pairwise.imp_of_mem ?_ (List.Pairwise.sublist List.filter_sublist (List.nodup_range (n := n))))
    intro a b ha hb hab e
    simp only [List.mem_filter, List.mem_range] at ha hb
    exact hab (h2 a b ha.1 hb.1 ha.2 hb.2 e)
  · intro x hx
    obtain ⟨i, hi, rfl⟩ := List.mem_map.1 hx
    simp only [List.mem_filter, List.mem_range] at hi ⊢
    exact h1 i hi.1 hi.2
theorem cnt_mono {p q : Nat → Bool} {n : Nat} (h : ∀ i, i < n → p i = true → q i = true) : cnt p n ≤ cnt q n := cnt_inj (fun i => i) (fun i hi hp => ⟨hi, h i hi hp⟩) fun _ _ _ _ _ _ e => e
theorem cnt_congr {p q : Nat → Bool} {n : Nat} (h : ∀ i, i < n → p i = q i) : cnt p n = cnt q n := Nat.le_antisymm (cnt_mono fun i hi hp => by rw [← h i hi]; exact hp) (cnt_mono fun i hi hp => by rw [h i hi]; exact hp)
theorem cnt_split (p q : Nat → Bool) : ∀ n, cnt p n = cnt (fun i => p i && q i) n + cnt (fun i => p i && !q i) n
  | 0 => rfl
  | n + 1 => by
    rw [cnt_succ, cnt_succ, cnt_succ, cnt_split p q n]
    cases p n <;> cases q n <;> simp <;> omega
theorem cnt_not (p : Nat → Bool) : ∀ n, cnt p n + cnt (fun i => !p i) n = n
  | 0 => rfl
  | n + 1 => by
    have := cnt_not p n
    rw [cnt_succ, cnt_succ]
    cases p n <;> simp <;> omega
theorem cnt_all {p q : Nat → Bool} : ∀ {n : Nat}, (∀ i, i < n → p i = true → q i = true) → cnt q n ≤ cnt p n → ∀ i, i < n → q i = true → p i = true
  | 0, _, _, i, hi, _ => by omega
  | n + 1, h, hc, i, hi, hq => by
    have h1 := cnt_mono (n := n) fun i hi => h i (by omega)
    rw [cnt_succ, cnt_succ] at hc
    have hn := h n (by omega)
    by_cases e : i = n
    · subst e
      cases hp : p i with
      | true => rfl
      | false => rw [hp, hq] at hc; simp at hc; omega
    · refine cnt_all (n := n) (fun i hi => h i (by omega)) ?_ i (by omega) hq
      cases hp : p n <;> cases hqn : q n <;> simp [hp, hqn] at hc hn ⊢ <;> omega
section
variable {n m : Nat} {E : List (Int × Int)} {L R : List Int}
abbrev pL (L : List Int) (i : Nat) : Bool := decide (0 ≤ gi L i)
theorem prsL_mem (hL : L.length = n) (p : Int × Int) : p ∈ prsL L n ↔ ∃ i : Nat, i < n ∧ 0 ≤ gi L i ∧ p = ((i : Int), gi L i) := by
  simp only [prsL, List.mem_map, List.mem_filter, List.mem_range, decide_eq_true_eq]
  constructor
  · rintro ⟨i, ⟨h1, h2⟩, rfl⟩
    rw [gi_eq (by omega)] at h2 ⊢
    exact ⟨i, h1, h2, rfl⟩
  · rintro ⟨i, h1, h2, rfl⟩
    exact ⟨i, ⟨h1, by rw [gi_eq (by omega)]; exact h2⟩, by rw [gi_eq (by omega)]⟩
theorem prsL_len (hL : L.length = n) : (prsL L n).length = cnt (pL L) n := by
  unfold prsL
  rw [List.length_map]
  exact cnt_congr fun i hi => by rw [gi_eq (by omega)]
theorem isMat_iff {E P : List (Int × Int)} : isMat E P = true ↔ (∀ p ∈ P, p ∈ E) ∧ (P.map (·.1)).Nodup ∧ (P.map (·.2)).Nodup := by
  simp [isMat]
theorem mch_mat (hM : Mch n m (nbOf n E) L R) (hE : ∀ e ∈ E, edgeIn n m e = true) : isMat E (prsL L n) = true := by
  rw [isMat_iff]
  refine ⟨fun p hp => ?_, ?_, ?_⟩
  · obtain ⟨i, h1, h2, rfl⟩ := (prsL_mem hM.hL p).1 hp
    exact (nbOf_mem hE i _).1 (hM.hE i h2)
  · unfold prsL
    rw [List.map_map]
    refine List.pairwise_map.2 (List.Pairwise.imp_of_mem ?_ (List.Pairwise.sublist List.filter_sublist (List.nodup_range (n := n))))
    intro a b _ _ hab e
    simp only [Function.comp] at e
    omega
  · unfold prsL
    rw [List.map_map]
    refine List.pairwise_map.2 (List.Pairwise.imp_of_mem ?_ (List.Pairwise.sublist List.filter_sublist (List.nodup_range (n := n))))
    intro a b ha hb hab e
    have hLl := hM.hL
    simp only [List.mem_filter, List.mem_range, decide_eq_true_eq] at ha hb
    simp only [Function.comp] at e
    rw [gi_eq (by omega)] at e ha hb
    rw [gi_eq (by omega)] at e
    have h1 := (hM.hC a (gi L a).toNat).1 (by omega)
    have h2 := (hM.hC b (gi L a).toNat).1 (by omega)
    omega
theorem mch_cnt (hM : Mch n m (nbOf n E) L R) : cnt (pL L) n = cnt (pL R) m := by
  refine Nat.le_antisymm (cnt_inj (fun i => (gi L i).toNat) (fun i hi hp => ?_) fun i j hi hj hp hq e => ?_) (cnt_inj (fun r => (gi R r).toNat) (fun r hr hp => ?_) fun i j hi hj hp hq e => ?_)
  · simp only [pL, decide_eq_true_eq] at hp ⊢
    have h1 := hM.hLm i
    have := (hM.hC i (gi L i).toNat).1 (by omega)
    omega
  · simp only [pL, decide_eq_true_eq] at hp hq
    have h1 := (hM.hC i (gi L i).toNat).1 (by omega)
    have h2 := (hM.hC j (gi L i).toNat).1 (by omega)
    omega
  · simp only [pL, decide_eq_true_eq] at hp ⊢
    have h1 := hM.hRn r
    have := (hM.hC (gi R r).toNat r).2 (by omega)
    omega
  · simp only [pL, decide_eq_true_eq] at hp hq
    have h1 := (hM.hC (gi R i).toNat i).2 (by omega)
    have h2 := (hM.hC (gi R i).toNat j).2 (by omega)
    omega
theorem NoAug.sub {nb : List (List Int)} (h : NoAug nb n L R) : ∀ r, RR nb n L R r → 0 ≤ gi R r := by
  obtain ⟨T, hT, hf⟩ := h
  have hl : ∀ l, RL nb n L R l → ∀ r ∈ nbl nb l, T r.toNat := by
    intro l hl
    induction hl with
    | free a b => exact hf _ a b
    | step a b c ih =>
      have h1 := (hT _ (ih _ b)).2
      rw [c, Int.toNat_natCast] at h1
      exact h1
  rintro r ⟨l, h1, h2⟩
  have := hT _ (hl l h1 _ h2)
  rw [Int.toNat_natCast] at this
  exact this.1
structure Rch (n m : Nat) (E : List (Int × Int)) (L R : List Int) (S T : Nat → Bool) : Prop where
  hM : Mch n m (nbOf n E) L R
  hA : NoAug (nbOf n E) n L R
  hE : ∀ e ∈ E, edgeIn n m e = true
  hS : ∀ i, S i = true ↔ RL (nbOf n E) n L R i
  hT : ∀ r, T r = true ↔ RR (nbOf n E) n L R r
variable {S T : Nat → Bool}
theorem Rch.edge (h : Rch n m E L R S T) {e : Int × Int} (he : e ∈ E) (hs : S e.1.toNat = true) : T e.2.toNat = true := by
  have h1 := edgeIn_iff.1 (h.hE e he)
  refine (h.hT _).2 ⟨_, (h.hS _).1 hs, (nbOf_mem h.hE _ _).2 ?_⟩
  rw [Int.toNat_of_nonneg h1.1, Int.toNat_of_nonneg h1.2.2.1]; exact he
theorem Rch.mate (h : Rch n m E L R S T) {r : Nat} (hr : T r = true) : 0 ≤ gi R r ∧ S (gi R r).toNat = true := by
  have h1 := (h.hT r).1 hr
  have h2 := h.hA.sub r h1
  obtain ⟨l, a, b⟩ := h1
  exact ⟨h2, (h.hS _).2 (.step a b (by rw [Int.toNat_natCast]; omega))⟩
theorem Rch.free (h : Rch n m E L R S T) {i : Nat} (hi : i < n) (hs : gi L i < 0) : S i = true := (h.hS i).2 (.free hi hs)
theorem Rch.to (h : Rch n m E L R S T) {i : Nat} (hs : S i = true) (hp : 0 ≤ gi L i) : T (gi L i).toNat = true :=
  (h.hT _).2 ⟨i, (h.hS i).1 hs, by rw [Int.toNat_of_nonneg hp]; exact h.hM.hE i hp⟩
theorem Rch.cntT (h : Rch n m E L R S T) : cnt (fun i => pL L i && S i) n = cnt T m := by
  have hM := h.hM
  refine Nat.le_antisymm (cnt_inj (fun i => (gi L i).toNat) (fun i hi hp => ?_) fun i j hi hj hp hq e => ?_) (cnt_inj (fun r => (gi R r).toNat) (fun r hr hp => ?_) fun i j hi hj hp hq e => ?_)
  · simp only [pL, Bool.and_eq_true, decide_eq_true_eq] at hp
    have h1 := hM.hLm i
    exact ⟨by omega, h.to hp.2 hp.1⟩
  · simp only [pL, Bool.and_eq_true, decide_eq_true_eq] at hp hq
    have h1 := (hM.hC i (gi L i).toNat).1 (by omega)
    have h2 := (hM.hC j (gi L i).toNat).1 (by omega)
    omega
  · have h2 := h.mate hp
    have h1 := hM.hRn r
    have := (hM.hC (gi R r).toNat r).2 (by omega)
    simp only [pL, Bool.and_eq_true, decide_eq_true_eq]
    exact ⟨by omega, by omega, h2.2⟩
  · have h3 := h.mate hp
    have h4 := h.mate hq
    have h1 := (hM.hC (gi R i).toNat i).2 (by omega)
    have h2 := (hM.hC (gi R i).toNat j).2 (by omega)
    omega
theorem Rch.cntS (h : Rch n m E L R S T) : cnt (fun i => pL L i && !S i) n = cnt (fun i => !S i) n :=
  cnt_congr fun i hi => by
    cases hs : S i with
    | true => simp
    | false =>
      by_cases hp : 0 ≤ gi L i
      · simp [hp]
      · have := h.free hi (by omega); rw [hs] at this; cases this
theorem Rch.cover (h : Rch n m E L R S T) : cnt (fun i => !S i) n + cnt T m = cnt (pL L) n := by
  rw [cnt_split (pL L) S n, h.cntT, h.cntS]; omega
/-- No matching has more edges than a cover has nodes. -/
theorem weak {P : List (Int × Int)} (hE : ∀ e ∈ E, edgeIn n m e = true) (hP : isMat E P = true) (A B : Nat → Bool) (hc : ∀ e ∈ E, A e.1.toNat = true ∨ B e.2.toNat = true) : P.length ≤ cnt A n + cnt B m := by
  obtain ⟨h1, h2, h3⟩ := isMat_iff.1 hP
  have hs : P.length = (P.filter fun p => A p.1.toNat).length + (P.filter fun p => !A p.1.toNat).length := by
    clear hP h1 h2 h3
    induction P with
    | nil => rfl
    | cons p P ih => cases h : A p.1.toNat <;> simp [h] <;> omega
  have ha := nodup_sub (l := (P.filter fun p => A p.1.toNat).map (·.1)) (l' := ((List.range n).filter A).map fun (i : Nat) => (i : Int)) ?_ ?_
  · have hb := nodup_sub (l := (P.filter fun p => !A p.1.toNat).map (·.2)) (l' := ((List.range m).filter B).map fun (i : Nat) => (i : Int)) ?_ ?_
    · rw [List.length_map, List.length_map] at ha hb
      unfold cnt
      omega
    · exact List.Pairwise.sublist (List.Sublist.map _ List.filter_sublist) h3
    · intro x hx
      obtain ⟨p, hp, rfl⟩ := List.mem_map.1 hx
      obtain ⟨hp1, hp2⟩ := List.mem_filter.1 hp
      have hr := edgeIn_iff.1 (hE p (h1 p hp1))
      refine List.mem_map.2 ⟨p.2.toNat, List.mem_filter.2 ⟨List.mem_range.2 (by omega), ?_⟩, by omega⟩
      rcases hc p (h1 p hp1) with h | h
      · rw [h] at hp2; cases hp2
      · exact h
  · exact List.Pairwise.sublist (List.Sublist.map _ List.filter_sublist) h2
  · intro x hx
    obtain ⟨p, hp, rfl⟩ := List.mem_map.1 hx
    obtain ⟨hp1, hp2⟩ := List.mem_filter.1 hp
    have hr := edgeIn_iff.1 (hE p (h1 p hp1))
    exact List.mem_map.2 ⟨p.1.toNat, List.mem_filter.2 ⟨List.mem_range.2 (by omega), hp2⟩, by omega⟩
theorem Rch.most (h : Rch n m E L R S T) {P : List (Int × Int)} (hP : isMat E P = true) : P.length ≤ cnt (pL L) n := by
  rw [← h.cover]
  refine weak h.hE hP _ _ fun e he => ?_
  cases hs : S e.1.toNat with
  | true => exact .inr (h.edge he hs)
  | false => exact .inl rfl
/-- A minimum cover has the right part of the nearest one. -/
theorem Rch.least (h : Rch n m E L R S T) {A B : Nat → Bool} (hc : ∀ e ∈ E, A e.1.toNat = true ∨ B e.2.toNat = true) (hk : cnt A n + cnt B m ≤ cnt (pL L) n) {r : Nat} (hr : T r = true) : B r = true := by
  have hM := h.hM
  have e1 := cnt_split (pL L) A n
  have e2 : cnt (fun i => pL L i && A i) n ≤ cnt A n := cnt_mono fun i _ hp => by simp at hp; exact hp.2
  have e3 : cnt (fun i => pL L i && !A i) n ≤ cnt (fun r => B r && (pL R r && !A (gi R r).toNat)) m := cnt_inj (fun i => (gi L i).toNat) (fun i hi hp => by
    simp only [pL, Bool.and_eq_true, decide_eq_true_eq] at hp
    have h1 := hM.hLm i
    have h2 := (hM.hC i (gi L i).toNat).1 (by omega)
    refine ⟨by omega, ?_⟩
    have he : (((i : Nat) : Int), gi L i) ∈ E := (nbOf_mem h.hE i _).1 (hM.hE i hp.1)
    simp only [pL, Bool.and_eq_true, decide_eq_true_eq, h2, Int.toNat_natCast]
    refine ⟨?_, by omega, hp.2⟩
    rcases hc _ he with h3 | h3
    · simp only [Int.toNat_natCast] at h3
      rw [h3] at hp; simp at hp
    · exact h3) fun i j hi hj hp hq e => by
    simp only [pL, Bool.and_eq_true, decide_eq_true_eq] at hp hq
    have h1 := (hM.hC i (gi L i).toNat).1 (by omega)
    have h2 := (hM.hC j (gi L i).toNat).1 (by omega)
    omega
  have e4 : cnt (fun r => B r && (pL R r && !A (gi R r).toNat)) m ≤ cnt B m := cnt_mono fun i _ hp => by
    simp only [Bool.and_eq_true] at hp; exact hp.1
  have f1 := cnt_all (p := fun i => pL L i && A i) (q := A) (n := n) (fun i _ hp => by simp at hp; exact hp.2) (by omega)
  have f2 := cnt_all (p := fun r => B r && (pL R r && !A (gi R r).toNat)) (q := B) (n := m) (fun i _ hp => by simp only [Bool.and_eq_true] at hp; exact hp.1) (by omega)
  have hl : ∀ l, RL (nbOf n E) n L R l → A l = false := by
    intro l hl
    induction hl with
    | @free l a b =>
      cases hA : A l with
      | false => rfl
      | true => have := f1 l a hA; simp [pL] at this; omega
    | @step l r l2 a b c ih =>
      have he := (nbOf_mem h.hE l r).1 b
      have hr := edgeIn_iff.1 (h.hE _ he)
      simp only at hr
      rcases hc _ he with h3 | h3
      · simp only [Int.toNat_natCast] at h3
        rw [h3] at ih; cases ih
      · have := f2 r.toNat (by omega) h3
        simp only [Bool.and_eq_true, Bool.not_eq_true', c, Int.toNat_natCast] at this
        exact this.2.2
  obtain ⟨l, a, b⟩ := (h.hT r).1 hr
  have he := (nbOf_mem h.hE l r).1 b
  rcases hc _ he with h3 | h3
  · simp only [Int.toNat_natCast] at h3
    rw [hl l a] at h3; cases h3
  · simpa using h3
/-- The neighbors of a set. -/
def nbX (E : List (Int × Int)) (X : Nat → Bool) (r : Nat) : Bool := E.any fun e => X e.1.toNat && decide (e.2 = (r : Int))
theorem nbX_iff {X : Nat → Bool} {r : Nat} : nbX E X r = true ↔ ∃ e ∈ E, X e.1.toNat = true ∧ e.2 = (r : Int) := by
  simp [nbX]
theorem Rch.hall (h : Rch n m E L R S T) (X : Nat → Bool) : cnt X n ≤ cnt (nbX E X) m + cnt (fun i => !pL L i) n ∧
    (cnt (nbX E X) m + cnt (fun i => !pL L i) n ≤ cnt X n → ∀ i, S i = true → X i = true) := by
  have hM := h.hM
  have e1 := cnt_split X (pL L) n
  have e2 : cnt (fun i => X i && !pL L i) n ≤ cnt (fun i => !pL L i) n := cnt_mono fun i _ hp => by
    simp only [Bool.and_eq_true] at hp; exact hp.2
  have e3 : cnt (fun i => X i && pL L i) n ≤ cnt (fun r => nbX E X r && (pL R r && X (gi R r).toNat)) m := cnt_inj (fun i => (gi L i).toNat) (fun i hi hp => by
    simp only [pL, Bool.and_eq_true, decide_eq_true_eq] at hp
    have h1 := hM.hLm i
    have h2 := (hM.hC i (gi L i).toNat).1 (by omega)
    have he : (((i : Nat) : Int), gi L i) ∈ E := (nbOf_mem h.hE i _).1 (hM.hE i hp.2)
    refine ⟨by omega, ?_⟩
    simp only [pL, Bool.and_eq_true, decide_eq_true_eq, h2, Int.toNat_natCast]
    exact ⟨nbX_iff.2 ⟨_, he, by simpa using hp.1, by simp only; omega⟩, by omega, hp.1⟩) fun i j hi hj hp hq e => by
    simp only [pL, Bool.and_eq_true, decide_eq_true_eq] at hp hq
    have h1 := (hM.hC i (gi L i).toNat).1 (by omega)
    have h2 := (hM.hC j (gi L i).toNat).1 (by omega)
    omega
  have e4 : cnt (fun r => nbX E X r && (pL R r && X (gi R r).toNat)) m ≤ cnt (nbX E X) m := cnt_mono fun i _ hp => by
    simp only [Bool.and_eq_true] at hp; exact hp.1
  refine ⟨by omega, fun hq => ?_⟩
  have f1 := cnt_all (p := fun i => X i && !pL L i) (q := fun i => !pL L i) (n := n) (fun i _ hp => by simp only [Bool.and_eq_true] at hp; exact hp.2) (by omega)
  have f2 := cnt_all (p := fun r => nbX E X r && (pL R r && X (gi R r).toNat)) (q := nbX E X) (n := m) (fun i _ hp => by simp only [Bool.and_eq_true] at hp; exact hp.1) (by omega)
  intro i hi
  have hl := (h.hS i).1 hi
  clear hi
  induction hl with
  | @free l a b =>
    have := f1 l a (by simp [pL]; omega)
    simp only [Bool.and_eq_true] at this
    exact this.1
  | @step l r l2 a b c ih =>
    have he := (nbOf_mem h.hE l r).1 b
    have hr := edgeIn_iff.1 (h.hE _ he)
    simp only at hr
    have := f2 r.toNat (by omega) (nbX_iff.2 ⟨_, he, by simpa using ih, by simp only; omega⟩)
    simp only [Bool.and_eq_true, c, Int.toNat_natCast] at this
    exact this.2.2
end
end Go.AM

namespace Go.Proofs.M
open Go.AM Go
set_option maxRecDepth 100000
set_option maxHeartbeats 2000000
def exE : List (Int × Int) := [(0, 0), (1, 0)]
theorem ex_gd : Gd 2 2 exE := ⟨by decide, by decide, by decide, by decide, by decide⟩
theorem isset_b (b : List Bool) (hb : b.length ≤ 512) : Reads Try.prog 21 false [.agg [.int .i64 b.length, .rsl 1 (words (setW b b.length))], .int .i64 b.length] (.bool true) := by
  have := isset_r b.length b.length (setW b b.length) (setW_ok b) (by have := setB_len hb; omega)
  rw [validS_setW hb] at this
  simpa using this
theorem awake_r : Reads Try.prog 9 false [] (.bool true) := by
  have h1 := max_good ex_gd.valid
  have h2 := cover_good ex_gd
  have h3 := hall_good ex_gd
  have v1 : maxP 2 2 exE = [(0, 0)] := by decide +kernel
  have v2 : cvL 2 2 exE = [false, false] := by decide +kernel
  have v3 : cvR 2 2 exE = [true, false] := by decide +kernel
  have v4 : (rchM 2 2 exE).l = [1, 0] := by decide +kernel
  have v5 : rowL 2 [1, 0] = [true, true] := by decide +kernel
  rw [v1] at h1
  rw [v2, v3] at h2
  rw [v4, if_neg (by decide), v5] at h3
  have s1 := isset_b [false, false] (by decide)
  have s2 := isset_b [true, false] (by decide)
  have s3 := isset_b [true, true] (by decide)
  have c1 := rcount_r [false, false] (by decide)
  have c3 := rcount_r [true, true] (by decide)
  have g1 := rhas_in [true, false] (by decide) 0 (by decide) (by decide)
  have g2 := rhas_in [true, false] (by decide) 1 (by decide) (by decide)
  have e1 : (memB [false, false]).length = 0 := by decide
  have e3 : (memB [true, true]).length = 2 := by decide
  rw [e1] at c1
  rw [e3] at c3
  unfold rowB at c1 c3 g1 g2
  simp only [List.length_cons, List.length_nil, Nat.reduceAdd] at s1 s2 s3 c1 c3 g1 g2
  simp only [exE, pairV, List.map_cons, List.map_nil] at h1 h2 h3
  generalize setW [false, false] 2 = A at *
  generalize setW [true, false] 2 = B at *
  generalize setW [true, true] 2 = C at *
  refine Reads.body (rs := [.tmp 0]) Try.func9 rfl Try.ntmps9 rfl (by simp) ?_
  generalize hQr : retQ _ _ _ = Qr
  refine AW.seq fun K1 hK1 => ?_
  -- region 0
  refine AW.regionK 0 (fun _ => none) [] [] ?_
  simp only [go_sem, reduceIte, reduceCtorEq, Nat.reduceAdd, Nat.reduceMul, Nat.reduceEqDiff, Nat.reduceLT, Nat.reduceLeDiff, Nat.reduceSub, Nat.reducePow, Nat.reduceBEq, Int.reduceToNat, List.reduceReplicate, decide_true, eq_self]
  repeat with_reducible refine cj ?_ ?_
  all_goals try first | omega
  refine hK1 _ _ _ ?_; clear hK1
  refine AW.seq fun K2 hK2 => ?_
  -- region 1
  refine AW.regionK 0 (fun _ => none) [1] [11] ?_
  simp only [go_sem, reduceIte, reduceCtorEq, Nat.reduceAdd, Nat.reduceMul, Nat.reduceEqDiff, Nat.reduceLT, Nat.reduceLeDiff, Nat.reduceSub, Nat.reducePow, Nat.reduceBEq, Int.reduceToNat, List.reduceReplicate, decide_true, eq_self]
  repeat with_reducible refine cj ?_ ?_
  all_goals try first | omega
  refine hK2 _ _ _ ?_; clear hK2
  refine AW.seq fun K3 hK3 => ?_
  refine AW.freezeK [11] [1] [] [] ?_
  simp only [go_sem, reduceIte, Nat.reduceEqDiff]
  -- region 2
  refine AW.regionK 0 (fun ii => if ii = 1 then some (.reads false (.tup [.rsl 2 [[.int .i64 0, .int .i64 0]], .int .i64 0])) else none) [1, 2, 3] [11] ?_
  simp only [go_sem, reduceIte, reduceCtorEq, Nat.reduceAdd, Nat.reduceMul, Nat.reduceEqDiff, Nat.reduceLT, Nat.reduceLeDiff, Nat.reduceSub, Nat.reducePow, Nat.reduceBEq, Int.reduceToNat, List.reduceReplicate, decide_true, eq_self]
  repeat with_reducible refine cj ?_ ?_
  all_goals try first | (exact h1) | omega | exact ent (by kernel_rfl)
  refine hK3 _ _ _ ?_; clear hK3
  refine AW.seq fun K4 hK4 => ?_
  -- region 3
  refine AW.regionK 0 (fun ii => if ii = 1 then some (.reads false (.tup [.agg [.int .i64 2, .rsl 1 (words A)], .agg [.int .i64 2, .rsl 1 (words B)], .int .i64 0])) else none) [1, 2, 3, 4, 5, 6] [4, 5, 11] ?_
  simp only [go_sem, reduceIte, reduceCtorEq, Nat.reduceAdd, Nat.reduceMul, Nat.reduceEqDiff, Nat.reduceLT, Nat.reduceLeDiff, Nat.reduceSub, Nat.reducePow, Nat.reduceBEq, Int.reduceToNat, List.reduceReplicate, decide_true, eq_self]
  repeat with_reducible refine cj ?_ ?_
  all_goals try first | (exact h2) | omega | exact ent (by kernel_rfl)
  refine hK4 _ _ _ ?_; clear hK4
  refine AW.seq fun K5 hK5 => ?_
  -- region 4
  refine AW.regionK 0 (fun ii => if ii = 1 then some (.reads false (.tup [.agg [.int .i64 2, .rsl 1 (words C)], .int .i64 0])) else none) [2, 3, 4, 5, 6, 7, 8] [4, 5, 7] ?_
  simp only [go_sem, reduceIte, reduceCtorEq, Nat.reduceAdd, Nat.reduceMul, Nat.reduceEqDiff, Nat.reduceLT, Nat.reduceLeDiff, Nat.reduceSub, Nat.reducePow, Nat.reduceBEq, Int.reduceToNat, List.reduceReplicate, decide_true, eq_self]
  repeat with_reducible refine cj ?_ ?_
  all_goals try first | (exact h3) | omega | exact ent (by kernel_rfl)
  refine hK5 _ _ _ ?_; clear hK5
  refine AW.seq fun K6 hK6 => ?_
  -- region 5
  refine AW.regionK 0 (fun ii => if ii = 13 then some (.reads false (.bool true)) else if ii = 17 then some (.reads false (.int .i64 0)) else if ii = 22 then some (.reads false (.bool true)) else if ii = 26 then some (.reads false (.bool true)) else if ii = 30 then some (.reads false (.bool false)) else if ii = 39 then some (.reads false (.bool true)) else if ii = 43 then some (.reads false (.int .i64 2)) else none) [0] [] ?_
  simp (maxSteps := 2000000) only [go_sem, reduceIte, reduceCtorEq, Nat.reduceAdd, Nat.reduceMul, Nat.reduceEqDiff, Nat.reduceLT, Nat.reduceLeDiff, Nat.reduceSub, Nat.reducePow, Nat.reduceBEq, Int.reduceToNat, List.reduceReplicate, decide_true, eq_self]
  repeat with_reducible refine cj ?_ ?_
  all_goals try first | (first | exact s1 | exact s2 | exact s3 | exact c1 | exact c3 | exact g1 | exact g2) | (intros; (repeat' apply And.intro) <;> first | assumption | (first | exact s1 | exact s2 | exact s3 | exact c1 | exact c3 | exact g1 | exact g2)) | omega | exact ent (by kernel_rfl) | (intro hgd; exact absurd hgd (by decide)) | rfl | (simp only [go_sem, reduceIte, reduceCtorEq, Nat.reduceAdd, Nat.reduceMul, Nat.reduceEqDiff, Nat.reduceLT, Nat.reduceLeDiff, Nat.reduceSub, Nat.reducePow, Nat.reduceBEq, Int.reduceToNat, List.reduceReplicate, decide_true, eq_self]; done) | (intro _hgd; simp_all [go_sem]; done)
  refine hK6 _ _ _ ?_; clear hK6
  refine AW.ret ?_
  rw [← hQr]
  simp only [go_sem, reduceIte, reduceCtorEq, Nat.reduceAdd, Nat.reduceMul, Nat.reduceEqDiff, Nat.reduceLT, Nat.reduceLeDiff, Nat.reduceSub, Nat.reducePow, Nat.reduceBEq, Int.reduceToNat, List.reduceReplicate, decide_true, eq_self]
  exact Wk.refl _
end Go.Proofs.M

namespace Go.Proofs.M
open Go.AM Go
set_option maxRecDepth 100000
set_option maxHeartbeats 2000000
theorem sg_dec {b : List Bool} {i : Nat} {p : Prop} [Decidable p] (h : sg b i ↔ p) : b.getD i false = decide p := by
  unfold sg at h
  cases hb : b.getD i false with
  | true => exact (decide_eq_true (h.1 hb)).symm
  | false => exact (decide_eq_false (fun hp => by rw [h.2 hp] at hb; cases hb)).symm
theorem Gd.inL {n m : Nat} {E : List (Int × Int)} (h : Gd n m E) (i : Nat) : sg (refM n m E).1 i ↔ (i : Int) ∈ (rchM n m E).l := by
  rw [h.ref.2.2.1 i]; exact ((reachP_spec (nbOf_len n E) h.rng h.max.1).2.1 i).symm
theorem hlL_eq {n m : Nat} {E : List (Int × Int)} (h : Gd n m E) : rowL n (rchM n m E).l = (refM n m E).1 := by
  refine getD_extB (by rw [rowL_len, h.ref.1]) fun i hi => ?_
  rw [rowL_len] at hi
  rw [rowL_get hi, sg_dec (h.inL i)]
theorem cntR_cnt (R : List Int) : ∀ j, j ≤ R.length → cntR R j = cnt (pL R) j
  | 0, _ => rfl
  | j + 1, hj => by
    rw [cntR_succ (by omega), cnt_succ, cntR_cnt R j (by omega), gi_eq (by omega)]
    by_cases h : 0 ≤ gi R j <;> simp [h]
theorem prsL_up (L : List Int) (n i : Nat) (a b : Int × Int) (ha : (prsL L n)[i]? = some a) (hb : (prsL L n)[i + 1]? = some b) : a.1 < b.1 := by
  have hp : (prsL L n).Pairwise fun x y => x.1 < y.1 := by
    unfold prsL
    refine List.pairwise_map.2 (List.Pairwise.imp (fun {a b} h => ?_) (List.Pairwise.sublist List.filter_sublist (List.pairwise_lt_range (n := n))))
    simp only; omega
  obtain ⟨h1, rfl⟩ := List.getElem?_eq_some_iff.1 ha
  obtain ⟨h2, rfl⟩ := List.getElem?_eq_some_iff.1 hb
  exact List.pairwise_iff_getElem.1 hp i (i + 1) h1 h2 (by omega)
theorem maxP_len {n m : Nat} {E : List (Int × Int)} (h : Gd n m E) : (maxP n m E).length = cntR (maxLR (nbOf n E) n m n).2 m := by
  unfold maxP
  rw [prsL_len h.max.1.hL, mch_cnt h.max.1, cntR_cnt _ _ (by rw [h.max.1.hR]; exact Nat.le_refl _)]
theorem maxP_mat {n m : Nat} {E : List (Int × Int)} (h : Gd n m E) : isMat E (maxP n m E) = true := mch_mat h.max.1 h.hE
theorem maxP_le (n m : Nat) (E : List (Int × Int)) : (maxP n m E).length ≤ n := prsL_le _ _
end Go.Proofs.M

/- A given list of pairs, laid as a matching. -/
namespace Go.AM
theorem Mch.join {n m : Nat} {nb : List (List Int)} {L R : List Int} (h : Mch n m nb L R) {a b : Nat} (ha : a < n) (hb : b < m) (hab : (b : Int) ∈ nbl nb a) (h1 : gi L a < 0) (h2 : gi R b < 0) : Mch n m nb (L.set a b) (R.set b a) := by
  have hLl := h.hL
  have hRl := h.hR
  refine ⟨by simp [hLl], by simp [hRl], fun r => ?_, fun l => ?_, fun l r => ?_, fun l hl => ?_⟩
  · rw [gi_set]; split
    · omega
    · exact h.hRn r
  · rw [gi_set]; split
    · omega
    · exact h.hLm l
  · rw [gi_set, gi_set]
    have h3 := h.hC l r
    by_cases e1 : a = l
    · subst e1
      rw [if_pos (by omega)]
      by_cases e2 : b = r
      · subst e2; rw [if_pos (by omega)]; simp
      · rw [if_neg (by omega)]
        constructor
        · intro h4; omega
        · intro h4; have := h3.2 h4; omega
    · rw [if_neg (by omega)]
      by_cases e2 : b = r
      · subst e2; rw [if_pos (by omega)]
        constructor
        · intro h4; have := h3.1 h4; omega
        · intro h4; omega
      · rw [if_neg (by omega)]; exact h3
  · rw [gi_set] at hl ⊢
    split
    · rename_i e; rw [← e.1]; exact hab
    · rename_i e; rw [if_neg e] at hl; exact h.hE l hl
def pstep (x : List Int × List Int) (p : Int × Int) : List Int × List Int := (x.1.set p.1.toNat p.2, x.2.set p.2.toNat p.1)
def plc (n m : Nat) (P : List (Int × Int)) : List Int × List Int := P.foldl pstep (List.replicate n (-1), List.replicate m (-1))
theorem plc_succ (n m : Nat) {P : List (Int × Int)} {j : Nat} {p : Int × Int} (hp : P[j]? = some p) : plc n m (P.take (j + 1)) = ((plc n m (P.take j)).1.set p.1.toNat p.2, (plc n m (P.take j)).2.set p.2.toNat p.1) := by
  unfold plc
  rw [List.take_add_one, hp, List.foldl_append]; rfl
structure PlI (n m : Nat) (E P : List (Int × Int)) (x : List Int × List Int) : Prop where
  hM : Mch n m (nbOf n E) x.1 x.2
  hL : ∀ i : Nat, 0 ≤ gi x.1 i ↔ (P.any fun q => decide (q.1 = (i : Int))) = true
  hR : ∀ i : Nat, 0 ≤ gi x.2 i ↔ (P.any fun q => decide (q.2 = (i : Int))) = true
  hp : ∀ p ∈ P, gi x.1 p.1.toNat = p.2
  hE : ∀ p ∈ P, p ∈ E
  h1 : (P.map (·.1)).Nodup
  h2 : (P.map (·.2)).Nodup
theorem plI_nil (n m : Nat) (E : List (Int × Int)) : PlI n m E [] (plc n m []) :=
  ⟨mch_start n m _, fun i => by show 0 ≤ gi (List.replicate n (-1)) i ↔ _; rw [gi_rep]; simp, fun i => by show 0 ≤ gi (List.replicate m (-1)) i ↔ _; rw [gi_rep]; simp, fun p h => (by cases h), fun p h => (by cases h), by simp, by simp⟩
theorem plI_snoc {n m : Nat} {E P : List (Int × Int)} {x : List Int × List Int} (hE : ∀ e ∈ E, edgeIn n m e = true) (h : PlI n m E P x) {p : Int × Int} (hp : p ∈ E) (h1 : gi x.1 p.1.toNat < 0) (h2 : gi x.2 p.2.toNat < 0) :
    PlI n m E (P ++ [p]) (x.1.set p.1.toNat p.2, x.2.set p.2.toNat p.1) := by
  obtain ⟨q1, q2, q3, q4⟩ := edgeIn_iff.1 (hE p hp)
  obtain ⟨p1, p2⟩ := p
  obtain ⟨a, rfl⟩ : ∃ a : Nat, p1 = a := ⟨p1.toNat, by simp only at q1; omega⟩
  obtain ⟨b, rfl⟩ : ∃ b : Nat, p2 = b := ⟨p2.toNat, by simp only at q3; omega⟩
  simp only [Int.toNat_natCast] at h1 h2 q2 q4 ⊢
  have hLl := h.hM.hL
  have hRl := h.hM.hR
  have n1 : (P.any fun q => decide (q.1 = (a : Int))) = false := by
    cases e : P.any fun q => decide (q.1 = (a : Int)) with
    | false => rfl
    | true => have := (h.hL a).2 e; omega
  have n2 : (P.any fun q => decide (q.2 = (b : Int))) = false := by
    cases e : P.any fun q => decide (q.2 = (b : Int)) with
    | false => rfl
    | true => have := (h.hR b).2 e; omega
  refine ⟨h.hM.join (by omega) (by omega) ((nbOf_mem hE a b).2 hp) h1 h2, fun i => ?_, fun i => ?_, fun q hq => ?_, fun q hq => ?_, map_nodup_snoc h.h1 (by simpa using n1), map_nodup_snoc h.h2 (by simpa using n2)⟩
  · rw [List.any_append]
    simp only [gi_set, List.any_cons, List.any_nil, Bool.or_false]
    by_cases e : a = i
    · subst e; rw [if_pos (by omega)]; simp
    · rw [if_neg (by omega), h.hL i]
      have : ¬ (a : Int) = (i : Int) := by omega
      simp [this]
  · rw [List.any_append]
    simp only [gi_set, List.any_cons, List.any_nil, Bool.or_false]
    by_cases e : b = i
    · subst e; rw [if_pos (by omega)]; simp
    · rw [if_neg (by omega), h.hR i]
      have : ¬ (b : Int) = (i : Int) := by omega
      simp [this]
  · simp only [gi_set]
    rcases List.mem_append.1 hq with hq | hq
    · have h3 := h.hp q hq
      have h4 := edgeIn_iff.1 (hE q (h.hE q hq))
      rw [if_neg]
      · exact h3
      · rintro ⟨e, _⟩
        rw [← e] at h3; omega
    · simp only [List.mem_singleton] at hq
      subst hq
      show (if (a : Int).toNat = (a : Int).toNat ∧ _ then _ else _) = _
      exact if_pos ⟨rfl, by omega⟩
  · rcases List.mem_append.1 hq with hq | hq
    · exact h.hE q hq
    · simp only [List.mem_singleton] at hq; rw [hq]; exact hp
theorem PlI.bad {n m : Nat} {E P : List (Int × Int)} {j : Nat} {p : Int × Int} {x : List Int × List Int} (hE : ∀ e ∈ E, edgeIn n m e = true) (h : PlI n m E (P.take j) x) (hp : P[j]? = some p) (hb : p ∉ E ∨ 0 ≤ gi x.1 p.1.toNat ∨ 0 ≤ gi x.2 p.2.toNat) : isMat E P = false := by
  cases hm : isMat E P with
  | false => rfl
  | true =>
    exfalso
    obtain ⟨a1, a2, a3⟩ := isMat_iff.1 hm
    have hpe := a1 p (List.mem_of_getElem? hp)
    have hr := edgeIn_iff.1 (hE p hpe)
    rcases hb with hb | hb | hb
    · exact hb hpe
    · have := (h.hL _).1 hb
      rw [Int.toNat_of_nonneg hr.1] at this
      exact map_not_nodup (f := (·.1)) hp this a2
    · have := (h.hR _).1 hb
      rw [Int.toNat_of_nonneg hr.2.2.1] at this
      exact map_not_nodup (f := (·.2)) hp this a3
theorem PlI.mat {n m : Nat} {E P : List (Int × Int)} {x : List Int × List Int} (h : PlI n m E P x) : isMat E P = true := isMat_iff.2 ⟨h.hE, h.h1, h.h2⟩
theorem nodup_of_map {α β : Type} {f : α → β} {l : List α} (h : (l.map f).Nodup) : l.Nodup :=
  List.Pairwise.imp (fun h e => h (by rw [e])) (List.pairwise_map.1 h)
theorem PlI.len {n m : Nat} {E P : List (Int × Int)} {x : List Int × List Int} (hE : ∀ e ∈ E, edgeIn n m e = true) (h : PlI n m E P x) : P.length = cnt (pL x.1) n := by
  rw [← prsL_len h.hM.hL]
  refine Nat.le_antisymm (nodup_sub (nodup_of_map h.h1) fun p hp => ?_) (nodup_sub (nodup_of_map (isMat_iff.1 (mch_mat h.hM hE)).2.1) fun p hp => ?_)
  · have h1 := h.hp p hp
    have hr := edgeIn_iff.1 (hE p (h.hE p hp))
    exact (prsL_mem h.hM.hL p).2 ⟨p.1.toNat, by omega, by omega, by rw [h1, Int.toNat_of_nonneg hr.1]⟩
  · obtain ⟨i, h1, h2, rfl⟩ := (prsL_mem h.hM.hL p).1 hp
    have h3 := (h.hL i).1 h2
    rw [List.any_eq_true] at h3
    obtain ⟨q, hq, e⟩ := h3
    rw [decide_eq_true_eq] at e
    have h4 := h.hp q hq
    rw [e, Int.toNat_natCast] at h4
    have : ((i : Int), gi x.1 i) = q := by
      obtain ⟨q1, q2⟩ := q
      simp only at e h4
      rw [e, h4]
    rw [this]; exact hq
end Go.AM

namespace Go.Proofs.M
open Go.AM Go
set_option maxRecDepth 100000
set_option maxHeartbeats 2000000
theorem index2_r (E : List (Int × Int)) (x : Int × Int) (hl : E.length ≤ 9223372036854775807) : Reads Try.prog 63 false [.rsl 2 (E.map pairV), .agg (pairV x)] (.int .i64 (ixf (fun y => decide (x = y)) E)) := by
  unfold pairV
  have hpv : (fun p : Int × Int => [AV.int .i64 p.1, AV.int .i64 p.2]) = pairV := rfl
  refine Reads.body (rs := [.tmp 4]) Try.func63 rfl Try.ntmps63 rfl (by simp) ?_
  generalize hQr : retQ _ _ _ = Qr
  refine AW.seq fun K1 hK1 => ?_
  -- region 0
  refine AW.regionK 0 (fun _ => none) [0, 3] [3] ?_
  simp only [go_sem, reduceIte, reduceCtorEq, Nat.reduceAdd, Nat.reduceMul, Nat.reduceEqDiff, Nat.reduceLT, Nat.reduceLeDiff, Nat.reduceSub, Nat.reducePow, Nat.reduceBEq, Int.reduceToNat, List.reduceReplicate, hpv]
  repeat with_reducible refine cj ?_ ?_
  all_goals try first | omega
  refine hK1 _ _ _ ?_; clear hK1
  refine AW.seq fun K2 hK2 => ?_
  refine AW.seq fun K3 hK3 => ?_
  -- region 1
  refine AW.regionK 0 (fun _ => none) [0, 3, 7, 8] [3] ?_
  simp only [go_sem, reduceIte, reduceCtorEq, Nat.reduceAdd, Nat.reduceMul, Nat.reduceEqDiff, Nat.reduceLT, Nat.reduceLeDiff, Nat.reduceSub, Nat.reducePow, Nat.reduceBEq, Int.reduceToNat, List.reduceReplicate, hpv]
  repeat with_reducible refine cj ?_ ?_
  all_goals try first | omega
  refine hK3 _ _ _ ?_; clear hK3
  refine AW.block ?_
  -- loop 1
  refine AW.loopE (fun mm ee ss kk => ∃ (j g v : Nat), E.length - j = mm ∧ ee = [(0, .rsl 2 (E.map pairV)), (3, .ptr ⟨3, g, none⟩ 0 0), (7, .int .i64 E.length), (8, .int .i64 (j : Nat))] ∧ ss = [(3, some ⟨g, v, 2, [[.int .i64 x.1, .int .i64 x.2]]⟩)] ∧ (j ≤ E.length ∧ (E.take j).any (fun y => decide (x = y)) = false)) ?_ ?_
  · refine ⟨_, 0, ?_, ?_, rfl, ?henv, ?hstore, ?hst⟩
    case henv =>
      repeat' (first | rfl | refine env_cons ?_ ?_ | refine st_cons ?_ ?_ ?_ ?_ | refine int_eq ?_ | refine bool_eq ?_ | refine rsl_eq ?_ | refine osl_eq ?_ | refine sl_eq ?_ ?_ ?_ | refine ptr_eq ?_ ?_ ?_ | refine agg_eq ?_ | refine es_cons ?_ ?_ | refine row_cons ?_ ?_)
      all_goals (first | (simp; done) | omega | (simp; omega))
    case hstore =>
      repeat' (first | rfl | refine env_cons ?_ ?_ | refine st_cons ?_ ?_ ?_ ?_ | refine int_eq ?_ | refine bool_eq ?_ | refine rsl_eq ?_ | refine osl_eq ?_ | refine sl_eq ?_ ?_ ?_ | refine ptr_eq ?_ ?_ ?_ | refine agg_eq ?_ | refine es_cons ?_ ?_ | refine row_cons ?_ ?_)
      all_goals (first | (simp; done) | omega | (simp; omega))
    case hst =>
      exact ⟨by omega, by simp⟩
  rintro mm ee ss kk ⟨j, g, v, rfl, rfl, rfl, hI⟩
  generalize hQl1 : thenQ _ _ = Ql1
  obtain ⟨hj, hno⟩ := hI
  refine AW.seq fun K4 hK4 => ?_
  -- region 2
  refine AW.regionK 0 (fun _ => none) [0, 3, 7, 8, 9] [3] ?_
  simp only [go_sem, reduceIte, reduceCtorEq, Nat.reduceAdd, Nat.reduceMul, Nat.reduceEqDiff, Nat.reduceLT, Nat.reduceLeDiff, Nat.reduceSub, Nat.reducePow, Nat.reduceBEq, Int.reduceToNat, List.reduceReplicate, hpv]
  repeat with_reducible refine cj ?_ ?_
  all_goals try first | omega
  refine hK4 _ _ _ ?_; clear hK4
  refine AW.seq fun K5 hK5 => ?_
  -- cond 1
  refine AW.cond rfl (by simp only [go_sem, reduceIte, reduceCtorEq, Nat.reduceAdd, Nat.reduceMul, Nat.reduceEqDiff, Nat.reduceLT, Nat.reduceLeDiff, Nat.reduceSub, Nat.reducePow, Nat.reduceBEq, Int.reduceToNat, List.reduceReplicate]) ?_ ?_
  · intro hb
    try simp only [hB, decide_eq_true_eq, decide_eq_false_iff_not] at hb
    obtain ⟨e, he⟩ := getI (l := E) (j := j) (by omega)
    have hge := getV (f := pairV) he
    have hats := any_take_succ (p := fun y => decide (x = y)) he
    have hpd := pair_dec x e
    refine AW.skip ?_
    refine hK5 _ _ _ ?_; clear hK5
    refine AW.seq fun K6 hK6 => ?_
    refine AW.block ?_
    refine AW.seq fun K7 hK7 => ?_
    -- region 3
    refine AW.regionK 0 (fun _ => none) [0, 3, 5, 7, 8] [3] ?_
    simp only [go_sem, reduceIte, reduceCtorEq, Nat.reduceAdd, Nat.reduceMul, Nat.reduceEqDiff, Nat.reduceLT, Nat.reduceLeDiff, Nat.reduceSub, Nat.reducePow, Nat.reduceBEq, Int.reduceToNat, List.reduceReplicate, hpv]
    repeat with_reducible refine cj ?_ ?_
    all_goals try first | omega
    refine hK7 _ _ _ ?_; clear hK7
    refine AW.seq fun K8 hK8 => ?_
    -- region 4
    refine AW.regionD mixed 0 (fun _ => none) [0, 3, 5, 7, 8, 16] [3] ?_
    simp only [go_sem, reduceIte, reduceCtorEq, Nat.reduceAdd, Nat.reduceMul, Nat.reduceEqDiff, Nat.reduceLT, Nat.reduceLeDiff, Nat.reduceSub, Nat.reducePow, Nat.reduceBEq, Int.reduceToNat, List.reduceReplicate, hpv, hge, pairV, hpd]
    repeat with_reducible refine cj ?_ ?_
    all_goals try first | omega | exact chk (by kernel_rfl)
    refine hK8 _ _ _ ?_; clear hK8
    -- cond 2
    refine AW.cond rfl (by simp only [go_sem, reduceIte, reduceCtorEq, Nat.reduceAdd, Nat.reduceMul, Nat.reduceEqDiff, Nat.reduceLT, Nat.reduceLeDiff, Nat.reduceSub, Nat.reducePow, Nat.reduceBEq, Int.reduceToNat, List.reduceReplicate]) ?_ ?_
    · intro hb
      try simp only [hB, decide_eq_true_eq, decide_eq_false_iff_not] at hb
      refine AW.seq fun K9 hK9 => ?_
      -- region 5
      refine AW.regionK 0 (fun _ => none) [4] [] ?_
      simp only [go_sem, reduceIte, reduceCtorEq, Nat.reduceAdd, Nat.reduceMul, Nat.reduceEqDiff, Nat.reduceLT, Nat.reduceLeDiff, Nat.reduceSub, Nat.reducePow, Nat.reduceBEq, Int.reduceToNat, List.reduceReplicate, hpv]
      repeat with_reducible refine cj ?_ ?_
      all_goals try first | omega
      refine hK9 _ _ _ ?_; clear hK9
      refine AW.ret ?_
      rw [← hQl1]
      rw [← hQr]
      simp only [go_sem, reduceIte, reduceCtorEq, Nat.reduceAdd, Nat.reduceMul, Nat.reduceEqDiff, Nat.reduceLT, Nat.reduceLeDiff, Nat.reduceSub, Nat.reducePow, Nat.reduceBEq, Int.reduceToNat, List.reduceReplicate, hpv]
      exact Wk.of_eq (by rw [ixf_at he (by simpa using hb) hno])
    · intro hb
      try simp only [hB, decide_eq_true_eq, decide_eq_false_iff_not] at hb
      refine AW.skip ?_
      refine hK6 _ _ _ ?_; clear hK6
      -- region 6
      refine AW.regionK 0 (fun _ => none) [0, 3, 7, 8] [3] ?_
      simp only [go_sem, reduceIte, reduceCtorEq, Nat.reduceAdd, Nat.reduceMul, Nat.reduceEqDiff, Nat.reduceLT, Nat.reduceLeDiff, Nat.reduceSub, Nat.reducePow, Nat.reduceBEq, Int.reduceToNat, List.reduceReplicate, hpv]
      repeat with_reducible refine cj ?_ ?_
      all_goals try first | omega
      rw [← hQl1]
      change Exists _
      refine ⟨_, ?hm, j + 1, ?_, ?_, rfl, ?henv, ?hstore, ?hst⟩
      case henv =>
        repeat' (first | rfl | refine env_cons ?_ ?_ | refine st_cons ?_ ?_ ?_ ?_ | refine int_eq ?_ | refine bool_eq ?_ | refine rsl_eq ?_ | refine osl_eq ?_ | refine sl_eq ?_ ?_ ?_ | refine ptr_eq ?_ ?_ ?_ | refine agg_eq ?_ | refine es_cons ?_ ?_ | refine row_cons ?_ ?_)
        all_goals (first | (simp; done) | omega | (simp; omega))
      case hstore =>
        repeat' (first | rfl | refine env_cons ?_ ?_ | refine st_cons ?_ ?_ ?_ ?_ | refine int_eq ?_ | refine bool_eq ?_ | refine rsl_eq ?_ | refine osl_eq ?_ | refine sl_eq ?_ ?_ ?_ | refine ptr_eq ?_ ?_ ?_ | refine agg_eq ?_ | refine es_cons ?_ ?_ | refine row_cons ?_ ?_)
        all_goals (first | (simp; done) | omega | (simp; omega))
      case hst =>
        exact ⟨by omega, by rw [hats, hno]; simpa using hb⟩
      case hm => omega
  · intro hb
    try simp only [hB, decide_eq_true_eq, decide_eq_false_iff_not] at hb
    refine AW.keep [] [] ?_
    try simp only [go_sem, reduceIte, reduceCtorEq, Nat.reduceAdd, Nat.reduceMul, Nat.reduceEqDiff, Nat.reduceLT, Nat.reduceLeDiff, Nat.reduceSub, Nat.reducePow, Nat.reduceBEq, Int.reduceToNat, List.reduceReplicate]
    refine AW.exit ?_
    rw [← hQl1]
    refine hK2 _ _ _ ?_; clear hK2
    refine AW.seq fun K10 hK10 => ?_
    -- region 7
    refine AW.regionK 0 (fun _ => none) [4] [] ?_
    simp only [go_sem, reduceIte, reduceCtorEq, Nat.reduceAdd, Nat.reduceMul, Nat.reduceEqDiff, Nat.reduceLT, Nat.reduceLeDiff, Nat.reduceSub, Nat.reducePow, Nat.reduceBEq, Int.reduceToNat, List.reduceReplicate, hpv]
    repeat with_reducible refine cj ?_ ?_
    all_goals try first | omega
    refine hK10 _ _ _ ?_; clear hK10
    refine AW.ret ?_
    rw [← hQr]
    simp only [go_sem, reduceIte, reduceCtorEq, Nat.reduceAdd, Nat.reduceMul, Nat.reduceEqDiff, Nat.reduceLT, Nat.reduceLeDiff, Nat.reduceSub, Nat.reducePow, Nat.reduceBEq, Int.reduceToNat, List.reduceReplicate, hpv]
    exact Wk.of_eq (by rw [List.take_of_length_le (by omega)] at hno; rw [ixf_none hno])
theorem contains2_r (E : List (Int × Int)) (x : Int × Int) (hl : E.length ≤ 9223372036854775807) : Reads Try.prog 54 false [.rsl 2 (E.map pairV), .agg (pairV x)] (.bool (decide (x ∈ E))) := by
  have hi := index2_r E x hl
  have hg := ixf_ge (fun y => decide (x = y)) E
  unfold pairV at hi ⊢
  have hpv : (fun p : Int × Int => [AV.int .i64 p.1, AV.int .i64 p.2]) = pairV := rfl
  rw [hpv] at hi ⊢
  refine Reads.body (rs := [.tmp 4]) Try.func54 rfl Try.ntmps54 rfl (by simp) ?_
  generalize hQr : retQ _ _ _ = Qr
  refine AW.seq fun K1 hK1 => ?_
  -- region 0
  refine AW.regionK 0 (fun _ => none) [0, 3] [3] ?_
  simp only [go_sem, reduceIte, reduceCtorEq, Nat.reduceAdd, Nat.reduceMul, Nat.reduceEqDiff, Nat.reduceLT, Nat.reduceLeDiff, Nat.reduceSub, Nat.reducePow, Nat.reduceBEq, Int.reduceToNat, List.reduceReplicate]
  repeat with_reducible refine cj ?_ ?_
  all_goals try first | omega
  refine hK1 _ _ _ ?_; clear hK1
  refine AW.seq fun K2 hK2 => ?_
  -- region 1
  refine AW.regionK 0 (fun ii => if ii = 2 then some (.reads false (.int .i64 (ixf (fun y => decide (x = y)) E))) else none) [4] [] ?_
  simp only [go_sem, reduceIte, reduceCtorEq, Nat.reduceAdd, Nat.reduceMul, Nat.reduceEqDiff, Nat.reduceLT, Nat.reduceLeDiff, Nat.reduceSub, Nat.reducePow, Nat.reduceBEq, Int.reduceToNat, List.reduceReplicate]
  repeat with_reducible refine cj ?_ ?_
  all_goals try first | (exact hi) | omega | exact ent (by kernel_rfl)
  refine hK2 _ _ _ ?_; clear hK2
  refine AW.ret ?_
  rw [← hQr]
  simp only [go_sem, reduceIte, reduceCtorEq, Nat.reduceAdd, Nat.reduceMul, Nat.reduceEqDiff, Nat.reduceLT, Nat.reduceLeDiff, Nat.reduceSub, Nat.reducePow, Nat.reduceBEq, Int.reduceToNat, List.reduceReplicate]
  exact Wk.of_eq (by rw [hg]; congr 1; rw [List.any_eq, decide_eq_decide]; simp)
end Go.Proofs.M

namespace Go.Proofs.M
open Go.AM Go
set_option maxRecDepth 100000
set_option maxHeartbeats 2000000
theorem ints_out {l : List Int} {i : Nat} (h : l.length ≤ i) : (ints l).getD i [] = [] := Go.AM.getD_out (by rw [ints_len]; exact h) _
theorem ints_gi {l : List Int} {i : Nat} (h : i < l.length) : (ints l).getD i [] = [.int .i64 (gi l i)] := by rw [ints_getD h, gi_eq h]
theorem plc_len (n m : Nat) (P : List (Int × Int)) : (plc n m P).1.length = n ∧ (plc n m P).2.length = m := by
  unfold plc
  have : ∀ (P : List (Int × Int)) (x : List Int × List Int), x.1.length = n ∧ x.2.length = m → (P.foldl pstep x).1.length = n ∧ (P.foldl pstep x).2.length = m := by
    intro P
    induction P with
    | nil => intro x h; exact h
    | cons p P ih => intro x h; rw [List.foldl_cons]; exact ih _ (by simpa [pstep] using h)
  exact this P _ (by simp)
theorem placed_good {n m : Nat} {E : List (Int × Int)} (h : Gd n m E) (P : List (Int × Int)) (hlP : P.length ≤ 9223372036854775807) (hmat : isMat E P = true) :
    Upd Try.prog 40 [] [.int .i64 n, .int .i64 m, .rsl 2 (E.map pairV), .rsl 2 (P.map pairV)] (fun k => .tup [.ptr ⟨0, k, none⟩ 0 0, .bool true]) (fun k => graphS n m (nbOf n E) (plc n m P).1 (plc n m P).2 k k k k k k) := by
  have hn := h.hn
  have hm := h.hm
  have hE := h.hE
  have hl := h.hl
  have hmd := made_u hn hm hE hl
  have hb1 := nbOf_len n E
  generalize hnb : nbOf n E = nb at *
  refine Upd.of_body (rs := [.tmp 8, .tmp 9]) Try.func40 rfl Try.ntmps40 rfl (by simp) ?_
  intro k0 k hk0 hk1
  generalize hQr : retQ _ _ _ = Qr
  refine AW.seq fun K1 hK1 => ?_
  -- region 0
  refine AW.regionK 100 (fun _ => none) [0, 1, 2, 3] [116, 1116, 2116] ?_
  simp only [go_sem, reduceIte, reduceCtorEq, Nat.reduceAdd, Nat.reduceMul, Nat.reduceEqDiff, Nat.reduceLT, Nat.reduceLeDiff, Nat.reduceSub, Nat.reducePow, Nat.reduceBEq, Int.reduceToNat, List.reduceReplicate, graphS, ints_len]
  repeat with_reducible refine cj ?_ ?_
  all_goals try first | omega
  refine hK1 _ _ _ ?_; clear hK1
  refine AW.seq fun K2 hK2 => ?_
  -- region 1
  refine AW.regionK 100 (fun ii => if ii = 3 then some (.upd [] (fun k => graphS n m nb (List.replicate n (-1)) (List.replicate m (-1)) k k k k k k) (fun k => .ptr ⟨0, k, none⟩ 0 0)) else none) [2, 3, 10] [116, 1116, 2116] ?_
  simp only [go_sem, reduceIte, reduceCtorEq, Nat.reduceAdd, Nat.reduceMul, Nat.reduceEqDiff, Nat.reduceLT, Nat.reduceLeDiff, Nat.reduceSub, Nat.reducePow, Nat.reduceBEq, Int.reduceToNat, List.reduceReplicate, graphS, ints_len]
  repeat with_reducible refine cj ?_ ?_
  all_goals try first | ((unfold graphS at hmd; exact hmd)) | omega | exact ent (by kernel_rfl)
  refine hK2 _ _ _ ?_; clear hK2
  refine AW.seq fun K3 hK3 => ?_
  refine AW.seq fun K4 hK4 => ?_
  -- region 2
  refine AW.regionK 100 (fun _ => none) [2, 10, 17, 18, 19] [116, 1116, 2116] ?_
  simp only [go_sem, reduceIte, reduceCtorEq, Nat.reduceAdd, Nat.reduceMul, Nat.reduceEqDiff, Nat.reduceLT, Nat.reduceLeDiff, Nat.reduceSub, Nat.reducePow, Nat.reduceBEq, Int.reduceToNat, List.reduceReplicate, graphS, ints_len]
  repeat with_reducible refine cj ?_ ?_
  all_goals try first | omega
  refine hK4 _ _ _ ?_; clear hK4
  refine AW.block ?_
  -- loop 1
  refine AW.loopE (fun mm ee ss kk => ∃ (j g0 v0 g1 v1 g2 v2 : Nat), P.length - j = mm ∧ ee = [(2, .rsl 2 (E.map pairV)), (10, .ptr ⟨116, g0, none⟩ 0 0), (17, .rsl 2 (P.map pairV)), (18, .int .i64 P.length), (19, .int .i64 (j : Nat))] ∧ ss = [(116, some ⟨g0, v0, 3, [[.rsl 1 (nbR nb), .sl ⟨1116, g1, none⟩ 0 n none, .sl ⟨2116, g2, none⟩ 0 m none]]⟩), (1116, some ⟨g1, v1, 1, ints (plc n m (P.take j)).1⟩), (2116, some ⟨g2, v2, 1, ints (plc n m (P.take j)).2⟩)] ∧ (j ≤ P.length ∧ PlI n m E (P.take j) (plc n m (P.take j)))) ?_ ?_
  · refine ⟨_, 0, ?_, ?_, ?_, ?_, ?_, ?_, rfl, ?henv, ?hstore, ?hst⟩
    case henv =>
      repeat' (first | rfl | refine env_cons ?_ ?_ | refine st_cons ?_ ?_ ?_ ?_ | refine int_eq ?_ | refine bool_eq ?_ | refine rsl_eq ?_ | refine osl_eq ?_ | refine sl_eq ?_ ?_ ?_ | refine ptr_eq ?_ ?_ ?_ | refine agg_eq ?_ | refine es_cons ?_ ?_ | refine row_cons ?_ ?_)
      all_goals (first | (simp; done) | omega | (simp; omega))
    case hstore =>
      repeat' (first | rfl | refine env_cons ?_ ?_ | refine st_cons ?_ ?_ ?_ ?_ | refine int_eq ?_ | refine bool_eq ?_ | refine rsl_eq ?_ | refine osl_eq ?_ | refine sl_eq ?_ ?_ ?_ | refine ptr_eq ?_ ?_ ?_ | refine agg_eq ?_ | refine es_cons ?_ ?_ | refine row_cons ?_ ?_)
      all_goals (first | (simp; done) | omega | (simp; omega))
    case hst =>
      exact ⟨by omega, plI_nil n m E⟩
  rintro mm ee ss kk ⟨j, g0, v0, g1, v1, g2, v2, rfl, rfl, rfl, hI⟩
  generalize hQl1 : thenQ _ _ = Ql1
  obtain ⟨hj, hI⟩ := hI
  have hL := (plc_len n m (P.take j)).1
  have hR := (plc_len n m (P.take j)).2
  refine AW.seq fun K5 hK5 => ?_
  -- region 3
  refine AW.regionK 100 (fun _ => none) [2, 10, 17, 18, 19, 20] [116, 1116, 2116] ?_
  simp only [go_sem, reduceIte, reduceCtorEq, Nat.reduceAdd, Nat.reduceMul, Nat.reduceEqDiff, Nat.reduceLT, Nat.reduceLeDiff, Nat.reduceSub, Nat.reducePow, Nat.reduceBEq, Int.reduceToNat, List.reduceReplicate, graphS, ints_len]
  repeat with_reducible refine cj ?_ ?_
  all_goals try first | omega
  refine hK5 _ _ _ ?_; clear hK5
  refine AW.seq fun K6 hK6 => ?_
  -- cond 1
  refine AW.cond rfl (by simp only [go_sem, reduceIte, reduceCtorEq, Nat.reduceAdd, Nat.reduceMul, Nat.reduceEqDiff, Nat.reduceLT, Nat.reduceLeDiff, Nat.reduceSub, Nat.reducePow, Nat.reduceBEq, Int.reduceToNat, List.reduceReplicate]) ?_ ?_
  · intro hb
    try simp only [hB, decide_eq_true_eq, decide_eq_false_iff_not] at hb
    obtain ⟨p, hp⟩ := getI (l := P) (j := j) (by omega)
    have hgp := getV (f := pairV) hp
    have hha := contains2_r E p (by omega)
    unfold pairV at hha
    have hpv : (fun p : Int × Int => [AV.int .i64 p.1, AV.int .i64 p.2]) = pairV := rfl
    rw [hpv] at hha
    have hts : P.take (j + 1) = P.take j ++ [p] := by rw [List.take_add_one, hp]; rfl
    have hps := plc_succ n m hp
    have hbad := hI.bad hE hp
    have hsnoc := fun h => plI_snoc hE hI (p := p) h
    generalize plc n m (P.take j) = x at *
    obtain ⟨L, R⟩ := x
    simp only at hL hR hps hbad hsnoc
    rw [hmat] at hbad
    have hpe : p ∈ E := Decidable.byContradiction fun h => by cases hbad (.inl h)
    have hl0 : gi L p.1.toNat < 0 := by by_cases h : 0 ≤ gi L p.1.toNat; cases hbad (.inr (.inl h)); omega
    have hr0 : gi R p.2.toNat < 0 := by by_cases h : 0 ≤ gi R p.2.toNat; cases hbad (.inr (.inr h)); omega
    have hr := edgeIn_iff.1 (hE p hpe)
    have hgA := ints_gi (l := L) (i := p.1.toNat) (by omega)
    have hgB := ints_gi (l := R) (i := p.2.toNat) (by omega)
    have hdp : decide (p ∈ E) = true := decide_eq_true hpe
    rw [hdp] at hha
    have hju := join_u n m (nbR nb) L R hL hR hn hm p.1 p.2 ⟨hr.1, hr.2.1⟩ ⟨hr.2.2.1, hr.2.2.2⟩ g0 v0 g1 v1 g2 v2
    have hsn := hsnoc hpe hl0 hr0
    rw [← hps, ← hts] at hsn
    rw [show L.set p.1.toNat p.2 = (plc n m (P.take (j + 1))).1 by rw [hps], show R.set p.2.toNat p.1 = (plc n m (P.take (j + 1))).2 by rw [hps]] at hju
    refine AW.skip ?_
    refine hK6 _ _ _ ?_; clear hK6
    refine AW.seq fun K7 hK7 => ?_
    refine AW.block ?_
    refine AW.seq fun K8 hK8 => ?_
    -- region 4
    refine AW.regionK 100 (fun _ => none) [2, 10, 12, 17, 18, 19] [112, 116, 1116, 2116] ?_
    simp only [go_sem, reduceIte, reduceCtorEq, Nat.reduceAdd, Nat.reduceMul, Nat.reduceEqDiff, Nat.reduceLT, Nat.reduceLeDiff, Nat.reduceSub, Nat.reducePow, Nat.reduceBEq, Int.reduceToNat, List.reduceReplicate, graphS, ints_len, hgp, pairV]
    repeat with_reducible refine cj ?_ ?_
    all_goals try first | omega
    refine hK8 _ _ _ ?_; clear hK8
    refine AW.seq fun K9 hK9 => ?_
    refine AW.seq fun K10 hK10 => ?_
    -- region 5
    refine AW.regionD mixed 100 (fun ii => if ii = 2 then some (.reads false (.bool true)) else none) [2, 10, 12, 17, 18, 19, 48] [112, 116, 1116, 2116] ?_
    simp only [go_sem, reduceIte, reduceCtorEq, Nat.reduceAdd, Nat.reduceMul, Nat.reduceEqDiff, Nat.reduceLT, Nat.reduceLeDiff, Nat.reduceSub, Nat.reducePow, Nat.reduceBEq, Int.reduceToNat, List.reduceReplicate, graphS, ints_len, hL, hR, hgA, hgB]
    repeat with_reducible refine cj ?_ ?_
    all_goals try first | (first | exact hha | (intro _; exact ⟨by omega, by omega⟩) | (intros; (repeat' apply And.intro) <;> first | omega | trivial)) | (intros; (repeat' apply And.intro) <;> first | assumption | (first | exact hha | (intro _; exact ⟨by omega, by omega⟩) | (intros; (repeat' apply And.intro) <;> first | omega | trivial))) | omega | exact chk (by kernel_rfl) | exact ent (by kernel_rfl) | (intro hgd; exact absurd hgd (by decide)) | rfl | (simp only [go_sem, reduceIte, reduceCtorEq, Nat.reduceAdd, Nat.reduceMul, Nat.reduceEqDiff, Nat.reduceLT, Nat.reduceLeDiff, Nat.reduceSub, Nat.reducePow, Nat.reduceBEq, Int.reduceToNat, List.reduceReplicate, graphS, ints_len, hL, hR, hgA, hgB]; done) | (intro _hgd; simp_all [go_sem]; done)
    refine hK10 _ _ _ ?_; clear hK10
    -- cond 2
    refine AW.cond rfl (by simp only [go_sem, reduceIte, reduceCtorEq, Nat.reduceAdd, Nat.reduceMul, Nat.reduceEqDiff, Nat.reduceLT, Nat.reduceLeDiff, Nat.reduceSub, Nat.reducePow, Nat.reduceBEq, Int.reduceToNat, List.reduceReplicate]) ?_ ?_
    · intro hb
      try simp only [hB, decide_eq_true_eq, decide_eq_false_iff_not] at hb
      exfalso; revert hb; simp; omega
    · intro hb
      try simp only [hB, decide_eq_true_eq, decide_eq_false_iff_not] at hb
      refine AW.skip ?_
      refine hK9 _ _ _ ?_; clear hK9
      -- region 7
      refine AW.regionK 100 (fun ii => if ii = 5 then some (.upd [116, 1116, 2116] (fun k => [(0, some ⟨g0, k, 3, [[.rsl 1 (nbR nb), .sl ⟨1, g1, none⟩ 0 n none, .sl ⟨2, g2, none⟩ 0 m none]]⟩), (1, some ⟨g1, k, 1, ints (plc n m (P.take (j + 1))).1⟩), (2, some ⟨g2, k, 1, ints (plc n m (P.take (j + 1))).2⟩)]) (fun _ => .tup [])) else none) [2, 10, 17, 18, 19] [116, 1116, 2116] ?_
      simp only [go_sem, reduceIte, reduceCtorEq, Nat.reduceAdd, Nat.reduceMul, Nat.reduceEqDiff, Nat.reduceLT, Nat.reduceLeDiff, Nat.reduceSub, Nat.reducePow, Nat.reduceBEq, Int.reduceToNat, List.reduceReplicate, graphS, ints_len, hL, hR]
      repeat with_reducible refine cj ?_ ?_
      all_goals try first | (exact hju) | omega | exact ent (by kernel_rfl)
      refine hK7 _ _ _ ?_; clear hK7
      -- region 8
      refine AW.regionK 100 (fun _ => none) [2, 10, 17, 18, 19] [116, 1116, 2116] ?_
      simp only [go_sem, reduceIte, reduceCtorEq, Nat.reduceAdd, Nat.reduceMul, Nat.reduceEqDiff, Nat.reduceLT, Nat.reduceLeDiff, Nat.reduceSub, Nat.reducePow, Nat.reduceBEq, Int.reduceToNat, List.reduceReplicate, graphS, ints_len]
      repeat with_reducible refine cj ?_ ?_
      all_goals try first | omega
      rw [← hQl1]
      change Exists _
      refine ⟨_, ?hm, j + 1, ?_, ?_, ?_, ?_, ?_, ?_, rfl, ?henv, ?hstore, ?hst⟩
      case henv =>
        repeat' (first | rfl | refine env_cons ?_ ?_ | refine st_cons ?_ ?_ ?_ ?_ | refine int_eq ?_ | refine bool_eq ?_ | refine rsl_eq ?_ | refine osl_eq ?_ | refine sl_eq ?_ ?_ ?_ | refine ptr_eq ?_ ?_ ?_ | refine agg_eq ?_ | refine es_cons ?_ ?_ | refine row_cons ?_ ?_)
        all_goals (first | (simp; done) | omega | (simp; omega))
      case hstore =>
        repeat' (first | rfl | refine env_cons ?_ ?_ | refine st_cons ?_ ?_ ?_ ?_ | refine int_eq ?_ | refine bool_eq ?_ | refine rsl_eq ?_ | refine osl_eq ?_ | refine sl_eq ?_ ?_ ?_ | refine ptr_eq ?_ ?_ ?_ | refine agg_eq ?_ | refine es_cons ?_ ?_ | refine row_cons ?_ ?_)
        all_goals (first | (simp; done) | omega | (simp; omega))
      case hst =>
        exact ⟨by omega, hsn⟩
      case hm => omega
  · intro hb
    try simp only [hB, decide_eq_true_eq, decide_eq_false_iff_not] at hb
    have hj2 : j = P.length := by omega
    subst hj2
    rw [List.take_length]
    refine AW.keep [10] [116, 1116, 2116] ?_
    try simp only [go_sem, reduceIte, reduceCtorEq, Nat.reduceAdd, Nat.reduceMul, Nat.reduceEqDiff, Nat.reduceLT, Nat.reduceLeDiff, Nat.reduceSub, Nat.reducePow, Nat.reduceBEq, Int.reduceToNat, List.reduceReplicate]
    refine AW.exit ?_
    rw [← hQl1]
    refine hK3 _ _ _ ?_; clear hK3
    refine AW.seq fun K11 hK11 => ?_
    -- region 9
    refine AW.regionK 100 (fun _ => none) [8, 9] [116, 1116, 2116] ?_
    simp only [go_sem, reduceIte, reduceCtorEq, Nat.reduceAdd, Nat.reduceMul, Nat.reduceEqDiff, Nat.reduceLT, Nat.reduceLeDiff, Nat.reduceSub, Nat.reducePow, Nat.reduceBEq, Int.reduceToNat, List.reduceReplicate, graphS, ints_len]
    repeat with_reducible refine cj ?_ ?_
    all_goals try first | omega
    refine hK11 _ _ _ ?_; clear hK11
    refine AW.ret ?_
    rw [← hQr]
    simp only [go_sem, reduceIte, reduceCtorEq, Nat.reduceAdd, Nat.reduceMul, Nat.reduceEqDiff, Nat.reduceLT, Nat.reduceLeDiff, Nat.reduceSub, Nat.reducePow, Nat.reduceBEq, Int.reduceToNat, List.reduceReplicate, graphS, ints_len]
    refine ⟨[(116, 0, true), (1116, 1, true), (2116, 2, true)], ?_⟩
    simp only [go_sem, reduceIte, Nat.reduceEqDiff, renC_ints, graphS]
    first | rfl | exact ⟨rfl, rfl⟩
theorem placed_bad {n m : Nat} {E : List (Int × Int)} (h : Gd n m E) (P : List (Int × Int)) (hlP : P.length ≤ 9223372036854775807) (hmat : isMat E P = false) :
    Upd Try.prog 40 [] [.int .i64 n, .int .i64 m, .rsl 2 (E.map pairV), .rsl 2 (P.map pairV)] (fun _ => .tup [.nilp, .bool false]) (fun _ => []) := by
  have hn := h.hn
  have hm := h.hm
  have hE := h.hE
  have hl := h.hl
  have hmd := made_u hn hm hE hl
  have hb1 := nbOf_len n E
  generalize hnb : nbOf n E = nb at *
  refine Upd.of_body (rs := [.tmp 8, .tmp 9]) Try.func40 rfl Try.ntmps40 rfl (by simp) ?_
  intro k0 k hk0 hk1
  generalize hQr : retQ _ _ _ = Qr
  refine AW.seq fun K1 hK1 => ?_
  -- region 0
  refine AW.regionK 100 (fun _ => none) [0, 1, 2, 3] [116, 1116, 2116] ?_
  simp only [go_sem, reduceIte, reduceCtorEq, Nat.reduceAdd, Nat.reduceMul, Nat.reduceEqDiff, Nat.reduceLT, Nat.reduceLeDiff, Nat.reduceSub, Nat.reducePow, Nat.reduceBEq, Int.reduceToNat, List.reduceReplicate, graphS, ints_len]
  repeat with_reducible refine cj ?_ ?_
  all_goals try first | omega
  refine hK1 _ _ _ ?_; clear hK1
  refine AW.seq fun K2 hK2 => ?_
  -- region 1
  refine AW.regionK 100 (fun ii => if ii = 3 then some (.upd [] (fun k => graphS n m nb (List.replicate n (-1)) (List.replicate m (-1)) k k k k k k) (fun k => .ptr ⟨0, k, none⟩ 0 0)) else none) [2, 3, 10] [116, 1116, 2116] ?_
  simp only [go_sem, reduceIte, reduceCtorEq, Nat.reduceAdd, Nat.reduceMul, Nat.reduceEqDiff, Nat.reduceLT, Nat.reduceLeDiff, Nat.reduceSub, Nat.reducePow, Nat.reduceBEq, Int.reduceToNat, List.reduceReplicate, graphS, ints_len]
  repeat with_reducible refine cj ?_ ?_
  all_goals try first | ((unfold graphS at hmd; exact hmd)) | omega | exact ent (by kernel_rfl)
  refine hK2 _ _ _ ?_; clear hK2
  refine AW.seq fun K3 hK3 => ?_
  refine AW.seq fun K4 hK4 => ?_
  -- region 2
  refine AW.regionK 100 (fun _ => none) [2, 10, 17, 18, 19] [116, 1116, 2116] ?_
  simp only [go_sem, reduceIte, reduceCtorEq, Nat.reduceAdd, Nat.reduceMul, Nat.reduceEqDiff, Nat.reduceLT, Nat.reduceLeDiff, Nat.reduceSub, Nat.reducePow, Nat.reduceBEq, Int.reduceToNat, List.reduceReplicate, graphS, ints_len]
  repeat with_reducible refine cj ?_ ?_
  all_goals try first | omega
  refine hK4 _ _ _ ?_; clear hK4
  refine AW.block ?_
  -- loop 1
  refine AW.loopE (fun mm ee ss kk => ∃ (j g0 v0 g1 v1 g2 v2 : Nat), P.length - j = mm ∧ ee = [(2, .rsl 2 (E.map pairV)), (10, .ptr ⟨116, g0, none⟩ 0 0), (17, .rsl 2 (P.map pairV)), (18, .int .i64 P.length), (19, .int .i64 (j : Nat))] ∧ ss = [(116, some ⟨g0, v0, 3, [[.rsl 1 (nbR nb), .sl ⟨1116, g1, none⟩ 0 n none, .sl ⟨2116, g2, none⟩ 0 m none]]⟩), (1116, some ⟨g1, v1, 1, ints (plc n m (P.take j)).1⟩), (2116, some ⟨g2, v2, 1, ints (plc n m (P.take j)).2⟩)] ∧ (j ≤ P.length ∧ PlI n m E (P.take j) (plc n m (P.take j)))) ?_ ?_
  · refine ⟨_, 0, ?_, ?_, ?_, ?_, ?_, ?_, rfl, ?henv, ?hstore, ?hst⟩
    case henv =>
      repeat' (first | rfl | refine env_cons ?_ ?_ | refine st_cons ?_ ?_ ?_ ?_ | refine int_eq ?_ | refine bool_eq ?_ | refine rsl_eq ?_ | refine osl_eq ?_ | refine sl_eq ?_ ?_ ?_ | refine ptr_eq ?_ ?_ ?_ | refine agg_eq ?_ | refine es_cons ?_ ?_ | refine row_cons ?_ ?_)
      all_goals (first | (simp; done) | omega | (simp; omega))
    case hstore =>
      repeat' (first | rfl | refine env_cons ?_ ?_ | refine st_cons ?_ ?_ ?_ ?_ | refine int_eq ?_ | refine bool_eq ?_ | refine rsl_eq ?_ | refine osl_eq ?_ | refine sl_eq ?_ ?_ ?_ | refine ptr_eq ?_ ?_ ?_ | refine agg_eq ?_ | refine es_cons ?_ ?_ | refine row_cons ?_ ?_)
      all_goals (first | (simp; done) | omega | (simp; omega))
    case hst =>
      exact ⟨by omega, plI_nil n m E⟩
  rintro mm ee ss kk ⟨j, g0, v0, g1, v1, g2, v2, rfl, rfl, rfl, hI⟩
  generalize hQl1 : thenQ _ _ = Ql1
  obtain ⟨hj, hI⟩ := hI
  have hL := (plc_len n m (P.take j)).1
  have hR := (plc_len n m (P.take j)).2
  refine AW.seq fun K5 hK5 => ?_
  -- region 3
  refine AW.regionK 100 (fun _ => none) [2, 10, 17, 18, 19, 20] [116, 1116, 2116] ?_
  simp only [go_sem, reduceIte, reduceCtorEq, Nat.reduceAdd, Nat.reduceMul, Nat.reduceEqDiff, Nat.reduceLT, Nat.reduceLeDiff, Nat.reduceSub, Nat.reducePow, Nat.reduceBEq, Int.reduceToNat, List.reduceReplicate, graphS, ints_len]
  repeat with_reducible refine cj ?_ ?_
  all_goals try first | omega
  refine hK5 _ _ _ ?_; clear hK5
  refine AW.seq fun K6 hK6 => ?_
  -- cond 1
  refine AW.cond rfl (by simp only [go_sem, reduceIte, reduceCtorEq, Nat.reduceAdd, Nat.reduceMul, Nat.reduceEqDiff, Nat.reduceLT, Nat.reduceLeDiff, Nat.reduceSub, Nat.reducePow, Nat.reduceBEq, Int.reduceToNat, List.reduceReplicate]) ?_ ?_
  · intro hb
    try simp only [hB, decide_eq_true_eq, decide_eq_false_iff_not] at hb
    obtain ⟨p, hp⟩ := getI (l := P) (j := j) (by omega)
    have hgp := getV (f := pairV) hp
    have hha := contains2_r E p (by omega)
    unfold pairV at hha
    have hpv : (fun p : Int × Int => [AV.int .i64 p.1, AV.int .i64 p.2]) = pairV := rfl
    rw [hpv] at hha
    have hts : P.take (j + 1) = P.take j ++ [p] := by rw [List.take_add_one, hp]; rfl
    have hps := plc_succ n m hp
    have hbad := hI.bad hE hp
    have hsnoc := fun h => plI_snoc hE hI (p := p) h
    generalize plc n m (P.take j) = x at *
    obtain ⟨L, R⟩ := x
    simp only at hL hR hps hbad hsnoc
    have hcA : (0 ≤ p.1 ∧ p.1 < n ∧ (ints L).getD p.1.toNat [] = [.int .i64 (gi L p.1.toNat)]) ∨ ∃ X, (X = [] ∨ ∃ b, X = [AV.int .i64 b]) ∧ (ints L).getD p.1.toNat [] = X ∧ ¬ (0 ≤ p.1 ∧ p.1 < n) := by
      by_cases h : 0 ≤ p.1 ∧ p.1 < n
      · exact .inl ⟨h.1, h.2, ints_gi (by omega)⟩
      · right
        by_cases h2 : p.1.toNat < L.length
        · exact ⟨_, .inr ⟨_, rfl⟩, ints_gi h2, h⟩
        · exact ⟨_, .inl rfl, ints_out (by omega), h⟩
    have hcB : (0 ≤ p.2 ∧ p.2 < m ∧ (ints R).getD p.2.toNat [] = [.int .i64 (gi R p.2.toNat)]) ∨ ∃ X, (X = [] ∨ ∃ b, X = [AV.int .i64 b]) ∧ (ints R).getD p.2.toNat [] = X ∧ ¬ (0 ≤ p.2 ∧ p.2 < m) := by
      by_cases h : 0 ≤ p.2 ∧ p.2 < m
      · exact .inl ⟨h.1, h.2, ints_gi (by omega)⟩
      · right
        by_cases h2 : p.2.toNat < R.length
        · exact ⟨_, .inr ⟨_, rfl⟩, ints_gi h2, h⟩
        · exact ⟨_, .inl rfl, ints_out (by omega), h⟩
    have hcase : (p ∈ E ∧ decide (p ∈ E) = true ∧ (0 ≤ p.1 ∧ p.1 < n ∧ 0 ≤ p.2 ∧ p.2 < m) ∧ (ints L).getD p.1.toNat [] = [.int .i64 (gi L p.1.toNat)] ∧ (ints R).getD p.2.toNat [] = [.int .i64 (gi R p.2.toNat)]) ∨
      (decide (p ∈ E) = false ∧ ∃ a b, (ints L).getD p.1.toNat [] = [AV.int .i64 a] ∧ (ints R).getD p.2.toNat [] = [AV.int .i64 b]) ∨
      (decide (p ∈ E) = false ∧ ∃ a, (ints L).getD p.1.toNat [] = [AV.int .i64 a] ∧ (ints R).getD p.2.toNat [] = []) ∨
      (decide (p ∈ E) = false ∧ ∃ b, (ints L).getD p.1.toNat [] = [] ∧ (ints R).getD p.2.toNat [] = [AV.int .i64 b]) ∨
      (decide (p ∈ E) = false ∧ (ints L).getD p.1.toNat [] = [] ∧ (ints R).getD p.2.toNat [] = []) := by
      by_cases hpe : p ∈ E
      · have hr := edgeIn_iff.1 (hE p hpe)
        exact .inl ⟨hpe, by simp [hpe], hr, ints_gi (by omega), ints_gi (by omega)⟩
      · have hd : decide (p ∈ E) = false := by simp [hpe]
        rcases hcA with ⟨_, _, h1⟩ | ⟨X, rfl | ⟨a, rfl⟩, h1, _⟩ <;> rcases hcB with ⟨_, _, h2⟩ | ⟨Y, rfl | ⟨b, rfl⟩, h2, _⟩
        · exact .inr (.inl ⟨hd, _, _, h1, h2⟩)
        · exact .inr (.inr (.inl ⟨hd, _, h1, h2⟩))
        · exact .inr (.inl ⟨hd, _, _, h1, h2⟩)
        · exact .inr (.inr (.inr (.inl ⟨hd, _, h1, h2⟩)))
        · exact .inr (.inr (.inr (.inr ⟨hd, h1, h2⟩)))
        · exact .inr (.inr (.inr (.inl ⟨hd, _, h1, h2⟩)))
        · exact .inr (.inl ⟨hd, _, _, h1, h2⟩)
        · exact .inr (.inr (.inl ⟨hd, _, h1, h2⟩))
        · exact .inr (.inl ⟨hd, _, _, h1, h2⟩)
    refine AW.skip ?_
    refine hK6 _ _ _ ?_; clear hK6
    refine AW.seq fun K7 hK7 => ?_
    refine AW.block ?_
    refine AW.seq fun K8 hK8 => ?_
    -- region 4
    refine AW.regionK 100 (fun _ => none) [2, 10, 12, 17, 18, 19] [112, 116, 1116, 2116] ?_
    simp only [go_sem, reduceIte, reduceCtorEq, Nat.reduceAdd, Nat.reduceMul, Nat.reduceEqDiff, Nat.reduceLT, Nat.reduceLeDiff, Nat.reduceSub, Nat.reducePow, Nat.reduceBEq, Int.reduceToNat, List.reduceReplicate, graphS, ints_len, hgp, pairV]
    repeat with_reducible refine cj ?_ ?_
    all_goals try first | omega
    refine hK8 _ _ _ ?_; clear hK8
    refine AW.seq fun K9 hK9 => ?_
    refine AW.seq fun K10 hK10 => ?_
    have hD5 : ∀ (g12 v12 : Nat) (kk : Nat), K10 [(2, .rsl 2 (E.map pairV)), (10, .ptr ⟨116, g0, none⟩ 0 0), (12, .ptr ⟨112, g12, none⟩ 0 0), (17, .rsl 2 (P.map pairV)), (18, .int .i64 P.length), (19, .int .i64 (j : Nat)), (48, .bool (!decide (p ∈ E) || decide (0 ≤ gi L p.1.toNat) || decide (0 ≤ gi R p.2.toNat)))] [(112, some ⟨g12, v12, 2, [[.int .i64 p.1, .int .i64 p.2]]⟩), (116, some ⟨g0, v0, 3, [[.rsl 1 (nbR nb), .sl ⟨1116, g1, none⟩ 0 n none, .sl ⟨2116, g2, none⟩ 0 m none]]⟩), (1116, some ⟨g1, v1, 1, ints L⟩), (2116, some ⟨g2, v2, 1, ints R⟩)] kk := by
      intro g12 v12 kk
      refine hK10 _ _ _ ?_; clear hK10
      -- cond 2
      refine AW.cond rfl (by simp only [go_sem, reduceIte, reduceCtorEq, Nat.reduceAdd, Nat.reduceMul, Nat.reduceEqDiff, Nat.reduceLT, Nat.reduceLeDiff, Nat.reduceSub, Nat.reducePow, Nat.reduceBEq, Int.reduceToNat, List.reduceReplicate]) ?_ ?_
      · intro hb
        try simp only [hB, decide_eq_true_eq, decide_eq_false_iff_not] at hb
        refine AW.seq fun K12 hK12 => ?_
        -- region 6
        refine AW.regionK 100 (fun _ => none) [8, 9] [116, 1116, 2116] ?_
        simp only [go_sem, reduceIte, reduceCtorEq, Nat.reduceAdd, Nat.reduceMul, Nat.reduceEqDiff, Nat.reduceLT, Nat.reduceLeDiff, Nat.reduceSub, Nat.reducePow, Nat.reduceBEq, Int.reduceToNat, List.reduceReplicate, graphS, ints_len]
        repeat with_reducible refine cj ?_ ?_
        all_goals try first | omega
        refine hK12 _ _ _ ?_; clear hK12
        refine AW.ret ?_
        rw [← hQl1]
        rw [← hQr]
        simp only [go_sem, reduceIte, reduceCtorEq, Nat.reduceAdd, Nat.reduceMul, Nat.reduceEqDiff, Nat.reduceLT, Nat.reduceLeDiff, Nat.reduceSub, Nat.reducePow, Nat.reduceBEq, Int.reduceToNat, List.reduceReplicate, graphS, ints_len]
        refine ⟨[], ?_⟩
        simp only [go_sem, reduceIte, Nat.reduceEqDiff]
        try first | rfl | exact ⟨rfl, rfl⟩
      · intro hb
        try simp only [hB, decide_eq_true_eq, decide_eq_false_iff_not] at hb
        have hpe : p ∈ E := by
          by_cases h : p ∈ E
          · exact h
          · simp [h] at hb
        have hl0 : gi L p.1.toNat < 0 := by obtain ⟨⟨_, h1⟩, h2⟩ := hb; omega
        have hr0 : gi R p.2.toNat < 0 := by obtain ⟨⟨_, h1⟩, h2⟩ := hb; omega
        have hr := edgeIn_iff.1 (hE p hpe)
        have hju := join_u n m (nbR nb) L R hL hR hn hm p.1 p.2 ⟨hr.1, hr.2.1⟩ ⟨hr.2.2.1, hr.2.2.2⟩ g0 v0 g1 v1 g2 v2
        have hsn := hsnoc hpe hl0 hr0
        rw [← hps, ← hts] at hsn
        rw [show L.set p.1.toNat p.2 = (plc n m (P.take (j + 1))).1 by rw [hps], show R.set p.2.toNat p.1 = (plc n m (P.take (j + 1))).2 by rw [hps]] at hju
        refine AW.skip ?_
        refine hK9 _ _ _ ?_; clear hK9
        -- region 7
        refine AW.regionK 100 (fun ii => if ii = 5 then some (.upd [116, 1116, 2116] (fun k => [(0, some ⟨g0, k, 3, [[.rsl 1 (nbR nb), .sl ⟨1, g1, none⟩ 0 n none, .sl ⟨2, g2, none⟩ 0 m none]]⟩), (1, some ⟨g1, k, 1, ints (plc n m (P.take (j + 1))).1⟩), (2, some ⟨g2, k, 1, ints (plc n m (P.take (j + 1))).2⟩)]) (fun _ => .tup [])) else none) [2, 10, 17, 18, 19] [116, 1116, 2116] ?_
        simp only [go_sem, reduceIte, reduceCtorEq, Nat.reduceAdd, Nat.reduceMul, Nat.reduceEqDiff, Nat.reduceLT, Nat.reduceLeDiff, Nat.reduceSub, Nat.reducePow, Nat.reduceBEq, Int.reduceToNat, List.reduceReplicate, graphS, ints_len, hL, hR]
        repeat with_reducible refine cj ?_ ?_
        all_goals try first | (exact hju) | omega | exact ent (by kernel_rfl)
        refine hK7 _ _ _ ?_; clear hK7
        -- region 8
        refine AW.regionK 100 (fun _ => none) [2, 10, 17, 18, 19] [116, 1116, 2116] ?_
        simp only [go_sem, reduceIte, reduceCtorEq, Nat.reduceAdd, Nat.reduceMul, Nat.reduceEqDiff, Nat.reduceLT, Nat.reduceLeDiff, Nat.reduceSub, Nat.reducePow, Nat.reduceBEq, Int.reduceToNat, List.reduceReplicate, graphS, ints_len]
        repeat with_reducible refine cj ?_ ?_
        all_goals try first | omega
        rw [← hQl1]
        change Exists _
        refine ⟨_, ?hm, j + 1, ?_, ?_, ?_, ?_, ?_, ?_, rfl, ?henv, ?hstore, ?hst⟩
        case henv =>
          repeat' (first | rfl | refine env_cons ?_ ?_ | refine st_cons ?_ ?_ ?_ ?_ | refine int_eq ?_ | refine bool_eq ?_ | refine rsl_eq ?_ | refine osl_eq ?_ | refine sl_eq ?_ ?_ ?_ | refine ptr_eq ?_ ?_ ?_ | refine agg_eq ?_ | refine es_cons ?_ ?_ | refine row_cons ?_ ?_)
          all_goals (first | (simp; done) | omega | (simp; omega))
        case hstore =>
          repeat' (first | rfl | refine env_cons ?_ ?_ | refine st_cons ?_ ?_ ?_ ?_ | refine int_eq ?_ | refine bool_eq ?_ | refine rsl_eq ?_ | refine osl_eq ?_ | refine sl_eq ?_ ?_ ?_ | refine ptr_eq ?_ ?_ ?_ | refine agg_eq ?_ | refine es_cons ?_ ?_ | refine row_cons ?_ ?_)
          all_goals (first | (simp; done) | omega | (simp; omega))
        case hst =>
          exact ⟨by omega, hsn⟩
        case hm => omega
    rcases hcase with ⟨hpe, hdp, hr, hgA, hgB⟩ | ⟨hdp, a, b, hgA, hgB⟩ | ⟨hdp, a, hgA, hgB⟩ | ⟨hdp, b, hgA, hgB⟩ | ⟨hdp, hgA, hgB⟩
    · -- region 5
      refine AW.regionD mixed 100 (fun ii => if ii = 2 then some (.reads false (.bool (decide (p ∈ E)))) else none) [2, 10, 12, 17, 18, 19, 48] [112, 116, 1116, 2116] ?_
      simp only [go_sem, reduceIte, reduceCtorEq, Nat.reduceAdd, Nat.reduceMul, Nat.reduceEqDiff, Nat.reduceLT, Nat.reduceLeDiff, Nat.reduceSub, Nat.reducePow, Nat.reduceBEq, Int.reduceToNat, List.reduceReplicate, graphS, ints_len, hL, hR, hdp, hgA, hgB]
      repeat with_reducible refine cj ?_ ?_
      all_goals try first | (first | (rw [hdp] at hha; exact hha) | (intro _; exact ⟨by omega, by omega⟩) | (intro _; omega) | (intros; (repeat' apply And.intro) <;> first | omega | trivial)) | (intros; (repeat' apply And.intro) <;> first | assumption | (first | (rw [hdp] at hha; exact hha) | (intro _; exact ⟨by omega, by omega⟩) | (intro _; omega) | (intros; (repeat' apply And.intro) <;> first | omega | trivial))) | omega | exact chk (by kernel_rfl) | exact ent (by kernel_rfl) | (intro hgd; exact absurd hgd (by decide)) | rfl | (simp only [go_sem, reduceIte, reduceCtorEq, Nat.reduceAdd, Nat.reduceMul, Nat.reduceEqDiff, Nat.reduceLT, Nat.reduceLeDiff, Nat.reduceSub, Nat.reducePow, Nat.reduceBEq, Int.reduceToNat, List.reduceReplicate, graphS, ints_len, hL, hR, hdp, hgA, hgB]; done) | (intro _hgd; simp_all [go_sem]; done)
      (have h5 := hD5; simp only [hdp, Bool.not_true, Bool.false_or] at h5; exact h5 _ _ _)
    · -- region 5
      refine AW.regionD mixed 100 (fun ii => if ii = 2 then some (.reads false (.bool (decide (p ∈ E)))) else none) [2, 10, 12, 17, 18, 19, 48] [112, 116, 1116, 2116] ?_
      simp only [go_sem, reduceIte, reduceCtorEq, Nat.reduceAdd, Nat.reduceMul, Nat.reduceEqDiff, Nat.reduceLT, Nat.reduceLeDiff, Nat.reduceSub, Nat.reducePow, Nat.reduceBEq, Int.reduceToNat, List.reduceReplicate, graphS, ints_len, hL, hR, hdp, hgA, hgB]
      repeat with_reducible refine cj ?_ ?_
      all_goals try first | (first | (rw [hdp] at hha; exact hha) | (intro _; exact ⟨by omega, by omega⟩) | (intro _; omega) | (intros; (repeat' apply And.intro) <;> first | omega | trivial)) | (intros; (repeat' apply And.intro) <;> first | assumption | (first | (rw [hdp] at hha; exact hha) | (intro _; exact ⟨by omega, by omega⟩) | (intro _; omega) | (intros; (repeat' apply And.intro) <;> first | omega | trivial))) | omega | exact chk (by kernel_rfl) | exact ent (by kernel_rfl) | (intro hgd; exact absurd hgd (by decide)) | rfl | (simp only [go_sem, reduceIte, reduceCtorEq, Nat.reduceAdd, Nat.reduceMul, Nat.reduceEqDiff, Nat.reduceLT, Nat.reduceLeDiff, Nat.reduceSub, Nat.reducePow, Nat.reduceBEq, Int.reduceToNat, List.reduceReplicate, graphS, ints_len, hL, hR, hdp, hgA, hgB]; done) | (intro _hgd; simp_all [go_sem]; done)
      (have h5 := hD5; simp only [hdp, Bool.not_false, Bool.true_or] at h5; exact h5 _ _ _)
    · -- region 5
      refine AW.regionD mixed 100 (fun ii => if ii = 2 then some (.reads false (.bool (decide (p ∈ E)))) else none) [2, 10, 12, 17, 18, 19, 48] [112, 116, 1116, 2116] ?_
      simp only [go_sem, reduceIte, reduceCtorEq, Nat.reduceAdd, Nat.reduceMul, Nat.reduceEqDiff, Nat.reduceLT, Nat.reduceLeDiff, Nat.reduceSub, Nat.reducePow, Nat.reduceBEq, Int.reduceToNat, List.reduceReplicate, graphS, ints_len, hL, hR, hdp, hgA, hgB]
      repeat with_reducible refine cj ?_ ?_
      all_goals try first | (first | (rw [hdp] at hha; exact hha) | (intro _; exact ⟨by omega, by omega⟩) | (intro _; omega) | (intros; (repeat' apply And.intro) <;> first | omega | trivial)) | (intros; (repeat' apply And.intro) <;> first | assumption | (first | (rw [hdp] at hha; exact hha) | (intro _; exact ⟨by omega, by omega⟩) | (intro _; omega) | (intros; (repeat' apply And.intro) <;> first | omega | trivial))) | omega | exact chk (by kernel_rfl) | exact ent (by kernel_rfl) | (intro hgd; exact absurd hgd (by decide)) | rfl | (simp only [go_sem, reduceIte, reduceCtorEq, Nat.reduceAdd, Nat.reduceMul, Nat.reduceEqDiff, Nat.reduceLT, Nat.reduceLeDiff, Nat.reduceSub, Nat.reducePow, Nat.reduceBEq, Int.reduceToNat, List.reduceReplicate, graphS, ints_len, hL, hR, hdp, hgA, hgB]; done) | (intro _hgd; simp_all [go_sem]; done)
      (have h5 := hD5; simp only [hdp, Bool.not_false, Bool.true_or] at h5; exact h5 _ _ _)
    · -- region 5
      refine AW.regionD mixed 100 (fun ii => if ii = 2 then some (.reads false (.bool (decide (p ∈ E)))) else none) [2, 10, 12, 17, 18, 19, 48] [112, 116, 1116, 2116] ?_
      simp only [go_sem, reduceIte, reduceCtorEq, Nat.reduceAdd, Nat.reduceMul, Nat.reduceEqDiff, Nat.reduceLT, Nat.reduceLeDiff, Nat.reduceSub, Nat.reducePow, Nat.reduceBEq, Int.reduceToNat, List.reduceReplicate, graphS, ints_len, hL, hR, hdp, hgA, hgB]
      repeat with_reducible refine cj ?_ ?_
      all_goals try first | (first | (rw [hdp] at hha; exact hha) | (intro _; exact ⟨by omega, by omega⟩) | (intro _; omega) | (intros; (repeat' apply And.intro) <;> first | omega | trivial)) | (intros; (repeat' apply And.intro) <;> first | assumption | (first | (rw [hdp] at hha; exact hha) | (intro _; exact ⟨by omega, by omega⟩) | (intro _; omega) | (intros; (repeat' apply And.intro) <;> first | omega | trivial))) | omega | exact chk (by kernel_rfl) | exact ent (by kernel_rfl) | (intro hgd; exact absurd hgd (by decide)) | rfl | (simp only [go_sem, reduceIte, reduceCtorEq, Nat.reduceAdd, Nat.reduceMul, Nat.reduceEqDiff, Nat.reduceLT, Nat.reduceLeDiff, Nat.reduceSub, Nat.reducePow, Nat.reduceBEq, Int.reduceToNat, List.reduceReplicate, graphS, ints_len, hL, hR, hdp, hgA, hgB]; done) | (intro _hgd; simp_all [go_sem]; done)
      (have h5 := hD5; simp only [hdp, Bool.not_false, Bool.true_or] at h5; exact h5 _ _ _)
    · -- region 5
      refine AW.regionD mixed 100 (fun ii => if ii = 2 then some (.reads false (.bool (decide (p ∈ E)))) else none) [2, 10, 12, 17, 18, 19, 48] [112, 116, 1116, 2116] ?_
      simp only [go_sem, reduceIte, reduceCtorEq, Nat.reduceAdd, Nat.reduceMul, Nat.reduceEqDiff, Nat.reduceLT, Nat.reduceLeDiff, Nat.reduceSub, Nat.reducePow, Nat.reduceBEq, Int.reduceToNat, List.reduceReplicate, graphS, ints_len, hL, hR, hdp, hgA, hgB]
      repeat with_reducible refine cj ?_ ?_
      all_goals try first | (first | (rw [hdp] at hha; exact hha) | (intro _; exact ⟨by omega, by omega⟩) | (intro _; omega) | (intros; (repeat' apply And.intro) <;> first | omega | trivial)) | (intros; (repeat' apply And.intro) <;> first | assumption | (first | (rw [hdp] at hha; exact hha) | (intro _; exact ⟨by omega, by omega⟩) | (intro _; omega) | (intros; (repeat' apply And.intro) <;> first | omega | trivial))) | omega | exact chk (by kernel_rfl) | exact ent (by kernel_rfl) | (intro hgd; exact absurd hgd (by decide)) | rfl | (simp only [go_sem, reduceIte, reduceCtorEq, Nat.reduceAdd, Nat.reduceMul, Nat.reduceEqDiff, Nat.reduceLT, Nat.reduceLeDiff, Nat.reduceSub, Nat.reducePow, Nat.reduceBEq, Int.reduceToNat, List.reduceReplicate, graphS, ints_len, hL, hR, hdp, hgA, hgB]; done) | (intro _hgd; simp_all [go_sem]; done)
      (have h5 := hD5; simp only [hdp, Bool.not_false, Bool.true_or] at h5; exact h5 _ _ _)
  · intro hb
    try simp only [hB, decide_eq_true_eq, decide_eq_false_iff_not] at hb
    exfalso
    have hj2 : j = P.length := by omega
    rw [hj2, List.take_length] at hI
    rw [hI.mat] at hmat
    cases hmat
end Go.Proofs.M

namespace Go.Proofs.M
open Go.AM Go
set_option maxRecDepth 100000
set_option maxHeartbeats 2000000
end Go.Proofs.M

namespace Go.Proofs.M
open Go.AM Go
set_option maxRecDepth 100000
set_option maxHeartbeats 2000000
end Go.Proofs.M

namespace Go.Proofs.M
open Go.AM Go
set_option maxRecDepth 100000
set_option maxHeartbeats 2000000
def greatB (n m : Int) (E : List (Int × Int)) : Bool := decide (60 < n) && decide (n ≤ 512) || decide (60 < m) && decide (m ≤ 512) || (decide (400 < (E.length : Int)) && decide ((E.length : Int) ≤ 2000)) || decide (2100 < (E.length : Int))
theorem great_b (n m : Int) (E : List (Int × Int)) (hl : E.length ≤ 9223372036854775807) : Reads Try.prog 10 false [.int .i64 n, .int .i64 m, .rsl 2 (E.map pairV)] (.bool (greatB n m E)) := great_r n m E hl
theorem Gd.rchS {n m : Nat} {E : List (Int × Int)} (h : Gd n m E) : Rch n m E (maxLR (nbOf n E) n m n).1 (maxLR (nbOf n E) n m n).2 (fun i => (refM n m E).1.getD i false) (fun i => (refM n m E).2.getD i false) :=
  ⟨h.max.1, h.max.2, h.hE, h.ref.2.2.1, h.ref.2.2.2⟩
theorem maxP_cnt {n m : Nat} {E : List (Int × Int)} (h : Gd n m E) : (maxP n m E).length = cnt (pL (maxLR (nbOf n E) n m n).1) n := prsL_len h.max.1.hL
theorem kon_most {n m : Nat} {E P : List (Int × Int)} (h : Gd n m E) (hP : isMat E P = true) : P.length ≤ (maxP n m E).length := by
  rw [maxP_cnt h]; exact h.rchS.most hP
end Go.Proofs.M

/- Masks of left nodes, and their deficiencies. -/
namespace Go.AM
structure LIv (d : Nat → Int) (n K : Nat) (x : Int × Nat) : Prop where
  h0 : 0 ≤ x.1
  h1 : ∀ k, k < K → d k ≤ x.1
  h2 : x.1 = 0 ∨ ∃ k, k < K ∧ d k = x.1
  h3 : x.2 < 2 ^ n
  h4 : 0 < x.1 → ∀ i, x.2.testBit i = true ↔ ∀ k, k < K → d k = x.1 → k.testBit i = true
end Go.AM

namespace Go.Proofs.M
open Go.AM Go
set_option maxRecDepth 100000
set_option maxHeartbeats 2000000
theorem Gd.noFree {n m : Nat} {E : List (Int × Int)} (h : Gd n m E) : (rchM n m E).l.length = 0 ↔ cnt (pL (maxLR (nbOf n E) n m n).1) n = n := by
  have hin := fun i => (reachP_spec (nbOf_len n E) h.rng h.max.1).2.1 i
  constructor
  · intro hz
    have hnil := List.length_eq_zero_iff.1 hz
    have hc := cnt_not (pL (maxLR (nbOf n E) n m n).1) n
    have : cnt (fun i => !pL (maxLR (nbOf n E) n m n).1 i) n = 0 := by
      unfold cnt
      rw [List.length_eq_zero_iff, List.filter_eq_nil_iff]
      intro i hi hp
      have hi := List.mem_range.1 hi
      have h1 := (hin i).2 (.free hi (by simpa [pL] using hp))
      rw [show reachP (nbOf n E) (maxLR (nbOf n E) n m n).1 (maxLR (nbOf n E) n m n).2 n m = rchM n m E from rfl, hnil] at h1
      cases h1
    omega
  · intro hc
    have hc2 := cnt_not (pL (maxLR (nbOf n E) n m n).1) n
    have hno : ∀ i, i < n → ¬ gi (maxLR (nbOf n E) n m n).1 i < 0 := fun i hi hp => by
      have hz : cnt (fun i => !pL (maxLR (nbOf n E) n m n).1 i) n = 0 := by omega
      unfold cnt at hz
      rw [List.length_eq_zero_iff, List.filter_eq_nil_iff] at hz
      exact hz i (List.mem_range.2 hi) (by simp [pL]; omega)
    have hnR : ∀ i, ¬ RL (nbOf n E) n (maxLR (nbOf n E) n m n).1 (maxLR (nbOf n E) n m n).2 i := fun i hi => by
      induction hi with
      | free a b => exact hno _ a b
      | step _ _ _ ih => exact ih
    rw [List.length_eq_zero_iff, List.eq_nil_iff_forall_not_mem]
    intro x hx
    obtain ⟨i, e, _, hr⟩ := h.rch.hl x hx
    exact hnR i hr
end Go.Proofs.M

namespace Go.Proofs.M
open Go.AM Go
set_option maxRecDepth 100000
set_option maxHeartbeats 2000000
def cmpI (a b : Int) : Int := if a < b then -1 else if b < a then 1 else 0
theorem nan_r (a : Int) : Reads Try.prog 60 false [.int .i64 a] (.bool false) := by
  refine Reads.body (rs := [.tmp 2]) Try.func60 rfl Try.ntmps60 rfl (by simp) ?_
  generalize hQr : retQ _ _ _ = Qr
  refine AW.seq fun K1 hK1 => ?_
  -- region 0
  refine AW.regionK 0 (fun _ => none) [0] [] ?_
  simp only [go_sem, reduceIte, reduceCtorEq, Nat.reduceAdd, Nat.reduceMul, Nat.reduceEqDiff, Nat.reduceLT, Nat.reduceLeDiff, Nat.reduceSub, Nat.reducePow, Nat.reduceBEq, Int.reduceToNat, List.reduceReplicate]
  repeat with_reducible refine cj ?_ ?_
  all_goals try first | omega
  refine hK1 _ _ _ ?_; clear hK1
  refine AW.seq fun K2 hK2 => ?_
  -- region 1
  refine AW.regionK 0 (fun _ => none) [2] [] ?_
  simp only [go_sem, reduceIte, reduceCtorEq, Nat.reduceAdd, Nat.reduceMul, Nat.reduceEqDiff, Nat.reduceLT, Nat.reduceLeDiff, Nat.reduceSub, Nat.reducePow, Nat.reduceBEq, Int.reduceToNat, List.reduceReplicate]
  repeat with_reducible refine cj ?_ ?_
  all_goals try first | omega
  refine hK2 _ _ _ ?_; clear hK2
  refine AW.ret ?_
  rw [← hQr]
  simp only [go_sem, reduceIte, reduceCtorEq, Nat.reduceAdd, Nat.reduceMul, Nat.reduceEqDiff, Nat.reduceLT, Nat.reduceLeDiff, Nat.reduceSub, Nat.reducePow, Nat.reduceBEq, Int.reduceToNat, List.reduceReplicate]
  exact Wk.of_eq (by simp)
theorem compare_r (a b : Int) : Reads Try.prog 46 false [.int .i64 a, .int .i64 b] (.int .i64 (cmpI a b)) := by
  have h1 := nan_r a
  have h2 := nan_r b
  refine Reads.body (rs := [.tmp 4]) Try.func46 rfl Try.ntmps46 rfl (by simp) ?_
  generalize hQr : retQ _ _ _ = Qr
  refine AW.seq fun K1 hK1 => ?_
  -- region 0
  refine AW.regionK 0 (fun _ => none) [0, 1] [] ?_
  simp only [go_sem, reduceIte, reduceCtorEq, Nat.reduceAdd, Nat.reduceMul, Nat.reduceEqDiff, Nat.reduceLT, Nat.reduceLeDiff, Nat.reduceSub, Nat.reducePow, Nat.reduceBEq, Int.reduceToNat, List.reduceReplicate]
  repeat with_reducible refine cj ?_ ?_
  all_goals try first | omega
  refine hK1 _ _ _ ?_; clear hK1
  refine AW.seq fun K2 hK2 => ?_
  -- region 1
  refine AW.regionK 0 (fun ii => if ii = 1 then some (.reads false (.bool false)) else none) [0, 1, 5] [] ?_
  simp only [go_sem, reduceIte, reduceCtorEq, Nat.reduceAdd, Nat.reduceMul, Nat.reduceEqDiff, Nat.reduceLT, Nat.reduceLeDiff, Nat.reduceSub, Nat.reducePow, Nat.reduceBEq, Int.reduceToNat, List.reduceReplicate]
  repeat with_reducible refine cj ?_ ?_
  all_goals try first | (exact h1) | omega | exact ent (by kernel_rfl)
  refine hK2 _ _ _ ?_; clear hK2
  refine AW.seq fun K3 hK3 => ?_
  -- region 2
  refine AW.regionK 0 (fun ii => if ii = 1 then some (.reads false (.bool false)) else none) [0, 1, 5, 6] [] ?_
  simp only [go_sem, reduceIte, reduceCtorEq, Nat.reduceAdd, Nat.reduceMul, Nat.reduceEqDiff, Nat.reduceLT, Nat.reduceLeDiff, Nat.reduceSub, Nat.reducePow, Nat.reduceBEq, Int.reduceToNat, List.reduceReplicate]
  repeat with_reducible refine cj ?_ ?_
  all_goals try first | (exact h2) | omega | exact ent (by kernel_rfl)
  refine hK3 _ _ _ ?_; clear hK3
  refine AW.seq fun K4 hK4 => ?_
  refine AW.seq fun K5 hK5 => ?_
  -- region 3
  refine AW.regionK 0 (fun _ => none) [0, 1, 6, 11] [] ?_
  simp only [go_sem, reduceIte, reduceCtorEq, Nat.reduceAdd, Nat.reduceMul, Nat.reduceEqDiff, Nat.reduceLT, Nat.reduceLeDiff, Nat.reduceSub, Nat.reducePow, Nat.reduceBEq, Int.reduceToNat, List.reduceReplicate]
  repeat with_reducible refine cj ?_ ?_
  all_goals try first | omega
  refine hK5 _ _ _ ?_; clear hK5
  -- cond 1
  refine AW.cond rfl (by simp only [go_sem, reduceIte, reduceCtorEq, Nat.reduceAdd, Nat.reduceMul, Nat.reduceEqDiff, Nat.reduceLT, Nat.reduceLeDiff, Nat.reduceSub, Nat.reducePow, Nat.reduceBEq, Int.reduceToNat, List.reduceReplicate]) ?_ ?_
  · intro hb
    try simp only [hB, decide_eq_true_eq, decide_eq_false_iff_not] at hb
    exfalso; simp at hb
  · intro hb
    try simp only [hB, decide_eq_true_eq, decide_eq_false_iff_not] at hb
    refine AW.skip ?_
    refine hK4 _ _ _ ?_; clear hK4
    refine AW.seq fun K6 hK6 => ?_
    refine AW.seq fun K7 hK7 => ?_
    -- region 7
    refine AW.regionK 0 (fun _ => none) [0, 1, 13] [] ?_
    simp only [go_sem, reduceIte, reduceCtorEq, Nat.reduceAdd, Nat.reduceMul, Nat.reduceEqDiff, Nat.reduceLT, Nat.reduceLeDiff, Nat.reduceSub, Nat.reducePow, Nat.reduceBEq, Int.reduceToNat, List.reduceReplicate]
    repeat with_reducible refine cj ?_ ?_
    all_goals try first | omega
    refine hK7 _ _ _ ?_; clear hK7
    -- cond 3
    refine AW.cond rfl (by simp only [go_sem, reduceIte, reduceCtorEq, Nat.reduceAdd, Nat.reduceMul, Nat.reduceEqDiff, Nat.reduceLT, Nat.reduceLeDiff, Nat.reduceSub, Nat.reducePow, Nat.reduceBEq, Int.reduceToNat, List.reduceReplicate]) ?_ ?_
    · intro hb
      try simp only [hB, decide_eq_true_eq, decide_eq_false_iff_not] at hb
      exfalso; simp at hb
    · intro hb
      try simp only [hB, decide_eq_true_eq, decide_eq_false_iff_not] at hb
      refine AW.skip ?_
      refine hK6 _ _ _ ?_; clear hK6
      refine AW.seq fun K8 hK8 => ?_
      refine AW.seq fun K9 hK9 => ?_
      -- region 9
      refine AW.regionK 0 (fun _ => none) [0, 1, 16] [] ?_
      simp only [go_sem, reduceIte, reduceCtorEq, Nat.reduceAdd, Nat.reduceMul, Nat.reduceEqDiff, Nat.reduceLT, Nat.reduceLeDiff, Nat.reduceSub, Nat.reducePow, Nat.reduceBEq, Int.reduceToNat, List.reduceReplicate]
      repeat with_reducible refine cj ?_ ?_
      all_goals try first | omega
      refine hK9 _ _ _ ?_; clear hK9
      -- cond 4
      refine AW.cond rfl (by simp only [go_sem, reduceIte, reduceCtorEq, Nat.reduceAdd, Nat.reduceMul, Nat.reduceEqDiff, Nat.reduceLT, Nat.reduceLeDiff, Nat.reduceSub, Nat.reducePow, Nat.reduceBEq, Int.reduceToNat, List.reduceReplicate]) ?_ ?_
      · intro hb
        try simp only [hB, decide_eq_true_eq, decide_eq_false_iff_not] at hb
        refine AW.seq fun K10 hK10 => ?_
        -- region 10
        refine AW.regionK 0 (fun _ => none) [4] [] ?_
        simp only [go_sem, reduceIte, reduceCtorEq, Nat.reduceAdd, Nat.reduceMul, Nat.reduceEqDiff, Nat.reduceLT, Nat.reduceLeDiff, Nat.reduceSub, Nat.reducePow, Nat.reduceBEq, Int.reduceToNat, List.reduceReplicate]
        repeat with_reducible refine cj ?_ ?_
        all_goals try first | omega
        refine hK10 _ _ _ ?_; clear hK10
        refine AW.ret ?_
        rw [← hQr]
        simp only [go_sem, reduceIte, reduceCtorEq, Nat.reduceAdd, Nat.reduceMul, Nat.reduceEqDiff, Nat.reduceLT, Nat.reduceLeDiff, Nat.reduceSub, Nat.reducePow, Nat.reduceBEq, Int.reduceToNat, List.reduceReplicate]
        exact Wk.of_eq (by unfold cmpI; rw [if_pos hb])
      · intro hb
        try simp only [hB, decide_eq_true_eq, decide_eq_false_iff_not] at hb
        refine AW.skip ?_
        refine hK8 _ _ _ ?_; clear hK8
        refine AW.seq fun K11 hK11 => ?_
        refine AW.seq fun K12 hK12 => ?_
        -- region 11
        refine AW.regionK 0 (fun _ => none) [19] [] ?_
        simp only [go_sem, reduceIte, reduceCtorEq, Nat.reduceAdd, Nat.reduceMul, Nat.reduceEqDiff, Nat.reduceLT, Nat.reduceLeDiff, Nat.reduceSub, Nat.reducePow, Nat.reduceBEq, Int.reduceToNat, List.reduceReplicate]
        repeat with_reducible refine cj ?_ ?_
        all_goals try first | omega
        refine hK12 _ _ _ ?_; clear hK12
        -- cond 5
        refine AW.cond rfl (by simp only [go_sem, reduceIte, reduceCtorEq, Nat.reduceAdd, Nat.reduceMul, Nat.reduceEqDiff, Nat.reduceLT, Nat.reduceLeDiff, Nat.reduceSub, Nat.reducePow, Nat.reduceBEq, Int.reduceToNat, List.reduceReplicate]) ?_ ?_
        · intro hb
          try simp only [hB, decide_eq_true_eq, decide_eq_false_iff_not] at hb
          refine AW.seq fun K13 hK13 => ?_
          -- region 12
          refine AW.regionK 0 (fun _ => none) [4] [] ?_
          simp only [go_sem, reduceIte, reduceCtorEq, Nat.reduceAdd, Nat.reduceMul, Nat.reduceEqDiff, Nat.reduceLT, Nat.reduceLeDiff, Nat.reduceSub, Nat.reducePow, Nat.reduceBEq, Int.reduceToNat, List.reduceReplicate]
          repeat with_reducible refine cj ?_ ?_
          all_goals try first | omega
          refine hK13 _ _ _ ?_; clear hK13
          refine AW.ret ?_
          rw [← hQr]
          simp only [go_sem, reduceIte, reduceCtorEq, Nat.reduceAdd, Nat.reduceMul, Nat.reduceEqDiff, Nat.reduceLT, Nat.reduceLeDiff, Nat.reduceSub, Nat.reducePow, Nat.reduceBEq, Int.reduceToNat, List.reduceReplicate]
          exact Wk.of_eq (by unfold cmpI; rw [if_neg (by omega), if_pos (by omega)])
        · intro hb
          try simp only [hB, decide_eq_true_eq, decide_eq_false_iff_not] at hb
          refine AW.skip ?_
          refine hK11 _ _ _ ?_; clear hK11
          refine AW.seq fun K14 hK14 => ?_
          -- region 13
          refine AW.regionK 0 (fun _ => none) [4] [] ?_
          simp only [go_sem, reduceIte, reduceCtorEq, Nat.reduceAdd, Nat.reduceMul, Nat.reduceEqDiff, Nat.reduceLT, Nat.reduceLeDiff, Nat.reduceSub, Nat.reducePow, Nat.reduceBEq, Int.reduceToNat, List.reduceReplicate]
          repeat with_reducible refine cj ?_ ?_
          all_goals try first | omega
          refine hK14 _ _ _ ?_; clear hK14
          refine AW.ret ?_
          rw [← hQr]
          simp only [go_sem, reduceIte, reduceCtorEq, Nat.reduceAdd, Nat.reduceMul, Nat.reduceEqDiff, Nat.reduceLT, Nat.reduceLeDiff, Nat.reduceSub, Nat.reducePow, Nat.reduceBEq, Int.reduceToNat, List.reduceReplicate]
          exact Wk.of_eq (by unfold cmpI; rw [if_neg (by omega), if_neg (by omega)])
theorem acmp_r (p q : Int × Int) : Reads Try.prog 45 false [.agg (pairV p), .agg (pairV q)] (.int .i64 (cmpI p.1 q.1)) := by
  have h := compare_r p.1 q.1
  unfold pairV
  refine Reads.body (rs := [.tmp 4]) Try.func45 rfl Try.ntmps45 rfl (by simp) ?_
  generalize hQr : retQ _ _ _ = Qr
  refine AW.seq fun K1 hK1 => ?_
  -- region 0
  refine AW.regionK 0 (fun _ => none) [2, 3] [2, 3] ?_
  simp only [go_sem, reduceIte, reduceCtorEq, Nat.reduceAdd, Nat.reduceMul, Nat.reduceEqDiff, Nat.reduceLT, Nat.reduceLeDiff, Nat.reduceSub, Nat.reducePow, Nat.reduceBEq, Int.reduceToNat, List.reduceReplicate]
  repeat with_reducible refine cj ?_ ?_
  all_goals try first | omega
  refine hK1 _ _ _ ?_; clear hK1
  refine AW.seq fun K2 hK2 => ?_
  -- region 1
  refine AW.regionK 0 (fun ii => if ii = 4 then some (.reads false (.int .i64 (cmpI p.1 q.1))) else none) [4] [] ?_
  simp only [go_sem, reduceIte, reduceCtorEq, Nat.reduceAdd, Nat.reduceMul, Nat.reduceEqDiff, Nat.reduceLT, Nat.reduceLeDiff, Nat.reduceSub, Nat.reducePow, Nat.reduceBEq, Int.reduceToNat, List.reduceReplicate]
  repeat with_reducible refine cj ?_ ?_
  all_goals try first | (exact h) | omega | exact ent (by kernel_rfl)
  refine hK2 _ _ _ ?_; clear hK2
  refine AW.ret ?_
  rw [← hQr]
  simp only [go_sem, reduceIte, reduceCtorEq, Nat.reduceAdd, Nat.reduceMul, Nat.reduceEqDiff, Nat.reduceLT, Nat.reduceLeDiff, Nat.reduceSub, Nat.reducePow, Nat.reduceBEq, Int.reduceToNat, List.reduceReplicate]
  exact Wk.refl _
/-- Ascending by the first numbers. -/
def Asc (P : List (Int × Int)) : Prop := ∀ (i j : Nat) (a b : Int × Int), i ≤ j → P[i]? = some a → P[j]? = some b → a.1 ≤ b.1
theorem Asc.cmp {P : List (Int × Int)} (h : Asc P) {i j : Nat} {a b : Int × Int} (hij : i ≤ j) (ha : P[i]? = some a) (hb : P[j]? = some b) : ¬ cmpI b.1 a.1 < 0 := by
  have := h i j a b hij ha hb
  unfold cmpI
  rw [if_neg (by omega)]
  split <;> omega
theorem asc_prsL (L : List Int) (n : Nat) : Asc (prsL L n) := by
  have hp : (prsL L n).Pairwise fun x y => x.1 < y.1 := by
    unfold prsL
    refine List.pairwise_map.2 (List.Pairwise.imp (fun {a b} h => ?_) (List.Pairwise.sublist List.filter_sublist (List.pairwise_lt_range (n := n))))
    simp only; omega
  intro i j a b hij ha hb
  obtain ⟨h1, rfl⟩ := List.getElem?_eq_some_iff.1 ha
  obtain ⟨h2, rfl⟩ := List.getElem?_eq_some_iff.1 hb
  by_cases e : i = j
  · subst e; exact Int.le_refl _
  · have := List.pairwise_iff_getElem.1 hp i j h1 h2 (by omega)
    omega
theorem ins_r (P : List (Int × Int)) (hl : P.length ≤ 1000) (hA : Asc P) : Reads Try.prog 64 false [.rsl 2 (P.map pairV), .int .i64 0, .int .i64 P.length, .fn 45 []] (.tup []) := by
  refine Reads.body (rs := []) Try.func64 rfl Try.ntmps64 rfl (by simp) ?_
  generalize hQr : retQ _ _ _ = Qr
  refine AW.seq fun K1 hK1 => ?_
  -- region 0
  refine AW.regionK 0 (fun _ => none) [0, 1, 2, 3, 8] [] ?_
  simp only [go_sem, reduceIte, reduceCtorEq, Nat.reduceAdd, Nat.reduceMul, Nat.reduceEqDiff, Nat.reduceLT, Nat.reduceLeDiff, Nat.reduceSub, Nat.reducePow, Nat.reduceBEq, Int.reduceToNat, List.reduceReplicate]
  repeat with_reducible refine cj ?_ ?_
  all_goals try first | omega
  refine hK1 _ _ _ ?_; clear hK1
  refine AW.block ?_
  -- loop 1
  refine AW.loopE (fun mm ee ss kk => ∃ (i : Nat), P.length - i = mm ∧ ee = [(0, .rsl 2 (P.map pairV)), (1, .int .i64 0), (2, .int .i64 P.length), (3, .fn 45 []), (8, .int .i64 ((i + 1 : Nat) : Int))] ∧ ss = [] ∧ (i ≤ P.length)) ?_ ?_
  · refine ⟨_, 0, rfl, ?henv, ?hstore, ?hst⟩
    case henv =>
      repeat' (first | rfl | refine env_cons ?_ ?_ | refine st_cons ?_ ?_ ?_ ?_ | refine int_eq ?_ | refine bool_eq ?_ | refine rsl_eq ?_ | refine osl_eq ?_ | refine sl_eq ?_ ?_ ?_ | refine ptr_eq ?_ ?_ ?_ | refine agg_eq ?_ | refine es_cons ?_ ?_ | refine row_cons ?_ ?_)
      all_goals (first | (simp; done) | omega | (simp; omega))
    case hstore =>
      repeat' (first | rfl | refine env_cons ?_ ?_ | refine st_cons ?_ ?_ ?_ ?_ | refine int_eq ?_ | refine bool_eq ?_ | refine rsl_eq ?_ | refine osl_eq ?_ | refine sl_eq ?_ ?_ ?_ | refine ptr_eq ?_ ?_ ?_ | refine agg_eq ?_ | refine es_cons ?_ ?_ | refine row_cons ?_ ?_)
      all_goals (first | (simp; done) | omega | (simp; omega))
    case hst =>
      first | trivial | omega | (simp; done) | (simp; omega)
  rintro mm ee ss kk ⟨i, rfl, rfl, rfl, hI⟩
  generalize hQl1 : thenQ _ _ = Ql1
  refine AW.seq fun K2 hK2 => ?_
  refine AW.seq fun K3 hK3 => ?_
  -- region 1
  refine AW.regionK 0 (fun _ => none) [0, 1, 2, 3, 8, 14] [] ?_
  simp only [go_sem, reduceIte, reduceCtorEq, Nat.reduceAdd, Nat.reduceMul, Nat.reduceEqDiff, Nat.reduceLT, Nat.reduceLeDiff, Nat.reduceSub, Nat.reducePow, Nat.reduceBEq, Int.reduceToNat, List.reduceReplicate]
  repeat with_reducible refine cj ?_ ?_
  all_goals try first | omega
  refine hK3 _ _ _ ?_; clear hK3
  -- cond 1
  refine AW.cond rfl (by simp only [go_sem, reduceIte, reduceCtorEq, Nat.reduceAdd, Nat.reduceMul, Nat.reduceEqDiff, Nat.reduceLT, Nat.reduceLeDiff, Nat.reduceSub, Nat.reducePow, Nat.reduceBEq, Int.reduceToNat, List.reduceReplicate]) ?_ ?_
  · intro hb
    try simp only [hB, decide_eq_true_eq, decide_eq_false_iff_not] at hb
    obtain ⟨a, ha⟩ := getI (l := P) (j := i) (by omega)
    obtain ⟨b, hb2⟩ := getI (l := P) (j := i + 1) (by omega)
    have hga := getV (f := pairV) ha
    have hgb := getV (f := pairV) hb2
    have hc := acmp_r b a
    have hn := hA.cmp (by omega) ha hb2
    have e1 : ((i + 1 : Nat) : Int).toNat = i + 1 := by omega
    have e2 : (((i + 1 : Nat) : Int) - 1).toNat = i := by omega
    unfold pairV at hc
    refine AW.skip ?_
    refine hK2 _ _ _ ?_; clear hK2
    refine AW.seq fun K4 hK4 => ?_
    refine AW.block ?_
    refine AW.seq fun K5 hK5 => ?_
    -- region 3
    refine AW.regionK 0 (fun _ => none) [0, 1, 2, 3, 8, 9] [] ?_
    simp only [go_sem, reduceIte, reduceCtorEq, Nat.reduceAdd, Nat.reduceMul, Nat.reduceEqDiff, Nat.reduceLT, Nat.reduceLeDiff, Nat.reduceSub, Nat.reducePow, Nat.reduceBEq, Int.reduceToNat, List.reduceReplicate]
    repeat with_reducible refine cj ?_ ?_
    all_goals try first | omega
    refine hK5 _ _ _ ?_; clear hK5
    refine AW.block ?_
    -- loop 2
    refine AW.loopE (fun mm ee ss kk => 0 + 1 = mm ∧ ee = [(0, .rsl 2 (P.map pairV)), (1, .int .i64 0), (2, .int .i64 P.length), (3, .fn 45 []), (8, .int .i64 ((i + 1 : Nat) : Int)), (9, .int .i64 ((i + 1 : Nat) : Int))] ∧ ss = [] ∧ (True)) ?_ ?_
    · refine ⟨_, rfl, ?henv, ?hstore, ?hst⟩
      case henv =>
        repeat' (first | rfl | refine env_cons ?_ ?_ | refine st_cons ?_ ?_ ?_ ?_ | refine int_eq ?_ | refine bool_eq ?_ | refine rsl_eq ?_ | refine osl_eq ?_ | refine sl_eq ?_ ?_ ?_ | refine ptr_eq ?_ ?_ ?_ | refine agg_eq ?_ | refine es_cons ?_ ?_ | refine row_cons ?_ ?_)
        all_goals (first | (simp; done) | omega | (simp; omega))
      case hstore =>
        repeat' (first | rfl | refine env_cons ?_ ?_ | refine st_cons ?_ ?_ ?_ ?_ | refine int_eq ?_ | refine bool_eq ?_ | refine rsl_eq ?_ | refine osl_eq ?_ | refine sl_eq ?_ ?_ ?_ | refine ptr_eq ?_ ?_ ?_ | refine agg_eq ?_ | refine es_cons ?_ ?_ | refine row_cons ?_ ?_)
        all_goals (first | (simp; done) | omega | (simp; omega))
      case hst =>
        first | trivial | omega | (simp; done) | (simp; omega)
    rintro mm ee ss kk ⟨rfl, rfl, rfl, hI⟩
    generalize hQl2 : thenQ _ _ = Ql2
    refine AW.seq fun K6 hK6 => ?_
    refine AW.seq fun K7 hK7 => ?_
    -- region 4
    refine AW.regionD mixed 0 (fun ii => if ii = 14 then some (.reads false (.int .i64 (cmpI b.1 a.1))) else none) [0, 1, 2, 3, 8, 9, 34] [] ?_
    simp only [go_sem, reduceIte, reduceCtorEq, Nat.reduceAdd, Nat.reduceMul, Nat.reduceEqDiff, Nat.reduceLT, Nat.reduceLeDiff, Nat.reduceSub, Nat.reducePow, Nat.reduceBEq, Int.reduceToNat, List.reduceReplicate, hga, hgb, pairV, e1, e2]
    repeat with_reducible refine cj ?_ ?_
    all_goals try first | (first | exact hc | (intro hh; (repeat' apply And.intro) <;> first | exact hh | omega)) | (intros; (repeat' apply And.intro) <;> first | assumption | (first | exact hc | (intro hh; (repeat' apply And.intro) <;> first | exact hh | omega))) | omega | exact chk (by kernel_rfl) | exact ent (by kernel_rfl) | (intro hgd; exact absurd hgd (by decide)) | rfl | (simp only [go_sem, reduceIte, reduceCtorEq, Nat.reduceAdd, Nat.reduceMul, Nat.reduceEqDiff, Nat.reduceLT, Nat.reduceLeDiff, Nat.reduceSub, Nat.reducePow, Nat.reduceBEq, Int.reduceToNat, List.reduceReplicate, hga, hgb, pairV, e1, e2]; done) | (intro _hgd; simp_all [go_sem]; done)
    refine hK7 _ _ _ ?_; clear hK7
    -- cond 2
    refine AW.cond rfl (by simp only [go_sem, reduceIte, reduceCtorEq, Nat.reduceAdd, Nat.reduceMul, Nat.reduceEqDiff, Nat.reduceLT, Nat.reduceLeDiff, Nat.reduceSub, Nat.reducePow, Nat.reduceBEq, Int.reduceToNat, List.reduceReplicate]) ?_ ?_
    · intro hb
      try simp only [hB, decide_eq_true_eq, decide_eq_false_iff_not] at hb
      exfalso; obtain ⟨_, hb⟩ := hb; exact hn hb
    · intro hb
      try simp only [hB, decide_eq_true_eq, decide_eq_false_iff_not] at hb
      refine AW.keep [0, 1, 2, 3, 8] [] ?_
      try simp only [go_sem, reduceIte, reduceCtorEq, Nat.reduceAdd, Nat.reduceMul, Nat.reduceEqDiff, Nat.reduceLT, Nat.reduceLeDiff, Nat.reduceSub, Nat.reducePow, Nat.reduceBEq, Int.reduceToNat, List.reduceReplicate]
      refine AW.exit ?_
      rw [← hQl2]
      refine hK4 _ _ _ ?_; clear hK4
      -- region 2
      refine AW.regionK 0 (fun _ => none) [0, 1, 2, 3, 8] [] ?_
      simp only [go_sem, reduceIte, reduceCtorEq, Nat.reduceAdd, Nat.reduceMul, Nat.reduceEqDiff, Nat.reduceLT, Nat.reduceLeDiff, Nat.reduceSub, Nat.reducePow, Nat.reduceBEq, Int.reduceToNat, List.reduceReplicate]
      repeat with_reducible refine cj ?_ ?_
      all_goals try first | omega
      rw [← hQl1]
      change Exists _
      refine ⟨_, ?hm, i + 1, rfl, ?henv, ?hstore, ?hst⟩
      case henv =>
        repeat' (first | rfl | refine env_cons ?_ ?_ | refine st_cons ?_ ?_ ?_ ?_ | refine int_eq ?_ | refine bool_eq ?_ | refine rsl_eq ?_ | refine osl_eq ?_ | refine sl_eq ?_ ?_ ?_ | refine ptr_eq ?_ ?_ ?_ | refine agg_eq ?_ | refine es_cons ?_ ?_ | refine row_cons ?_ ?_)
        all_goals (first | (simp; done) | omega | (simp; omega))
      case hstore =>
        repeat' (first | rfl | refine env_cons ?_ ?_ | refine st_cons ?_ ?_ ?_ ?_ | refine int_eq ?_ | refine bool_eq ?_ | refine rsl_eq ?_ | refine osl_eq ?_ | refine sl_eq ?_ ?_ ?_ | refine ptr_eq ?_ ?_ ?_ | refine agg_eq ?_ | refine es_cons ?_ ?_ | refine row_cons ?_ ?_)
        all_goals (first | (simp; done) | omega | (simp; omega))
      case hst =>
        first | trivial | omega | (simp; done) | (simp; omega)
      case hm => omega
  · intro hb
    try simp only [hB, decide_eq_true_eq, decide_eq_false_iff_not] at hb
    refine AW.keep [] [] ?_
    try simp only [go_sem, reduceIte, reduceCtorEq, Nat.reduceAdd, Nat.reduceMul, Nat.reduceEqDiff, Nat.reduceLT, Nat.reduceLeDiff, Nat.reduceSub, Nat.reducePow, Nat.reduceBEq, Int.reduceToNat, List.reduceReplicate]
    refine AW.exit ?_
    rw [← hQl1]
    rw [← hQr]
    simp only [go_sem, reduceIte, reduceCtorEq, Nat.reduceAdd, Nat.reduceMul, Nat.reduceEqDiff, Nat.reduceLT, Nat.reduceLeDiff, Nat.reduceSub, Nat.reducePow, Nat.reduceBEq, Int.reduceToNat, List.reduceReplicate]
    exact Wk.refl _
end Go.Proofs.M

namespace Go.Proofs.M
open Go.AM Go
set_option maxRecDepth 100000
set_option maxHeartbeats 2000000
theorem order2_r (P : List (Int × Int)) (hA : Asc P) (hl : P.length ≤ 1000) (i j : Nat) (hij : i ≤ j) (hj : j < P.length) : Reads Try.prog 81 false [.rsl 2 (P.map pairV), .int .i64 i, .int .i64 j, .rptr [.int .i64 0], .fn 45 []] (.tup [.int .i64 i, .int .i64 j]) := by
  obtain ⟨a, ha⟩ := getI (l := P) (j := i) (by omega)
  obtain ⟨b, hb2⟩ := getI (l := P) (j := j) (by omega)
  have hga := getV (f := pairV) ha
  have hgb := getV (f := pairV) hb2
  have hc := acmp_r b a
  have hn := hA.cmp hij ha hb2
  unfold pairV at hc
  refine Reads.body (rs := [.tmp 10, .tmp 11]) Try.func81 rfl Try.ntmps81 rfl (by simp) ?_
  generalize hQr : retQ _ _ _ = Qr
  refine AW.seq fun K1 hK1 => ?_
  -- region 0
  refine AW.regionK 0 (fun _ => none) [0, 1, 2, 3, 4] [] ?_
  simp only [go_sem, reduceIte, reduceCtorEq, Nat.reduceAdd, Nat.reduceMul, Nat.reduceEqDiff, Nat.reduceLT, Nat.reduceLeDiff, Nat.reduceSub, Nat.reducePow, Nat.reduceBEq, Int.reduceToNat, List.reduceReplicate]
  repeat with_reducible refine cj ?_ ?_
  all_goals try first | omega
  refine hK1 _ _ _ ?_; clear hK1
  refine AW.seq fun K2 hK2 => ?_
  refine AW.seq fun K3 hK3 => ?_
  -- region 1
  refine AW.regionD mixed 0 (fun ii => if ii = 9 then some (.reads false (.int .i64 (cmpI b.1 a.1))) else none) [1, 2, 3, 22] [] ?_
  simp only [go_sem, reduceIte, reduceCtorEq, Nat.reduceAdd, Nat.reduceMul, Nat.reduceEqDiff, Nat.reduceLT, Nat.reduceLeDiff, Nat.reduceSub, Nat.reducePow, Nat.reduceBEq, Int.reduceToNat, List.reduceReplicate, hga, hgb, pairV]
  repeat with_reducible refine cj ?_ ?_
  all_goals try first | (exact hc) | omega | exact chk (by kernel_rfl) | exact ent (by kernel_rfl)
  refine hK3 _ _ _ ?_; clear hK3
  -- cond 1
  refine AW.cond rfl (by simp only [go_sem, reduceIte, reduceCtorEq, Nat.reduceAdd, Nat.reduceMul, Nat.reduceEqDiff, Nat.reduceLT, Nat.reduceLeDiff, Nat.reduceSub, Nat.reducePow, Nat.reduceBEq, Int.reduceToNat, List.reduceReplicate]) ?_ ?_
  · intro hb
    try simp only [hB, decide_eq_true_eq, decide_eq_false_iff_not] at hb
    exact absurd hb hn
  · intro hb
    try simp only [hB, decide_eq_true_eq, decide_eq_false_iff_not] at hb
    refine AW.skip ?_
    refine hK2 _ _ _ ?_; clear hK2
    refine AW.seq fun K4 hK4 => ?_
    -- region 4
    refine AW.regionK 0 (fun _ => none) [10, 11] [] ?_
    simp only [go_sem, reduceIte, reduceCtorEq, Nat.reduceAdd, Nat.reduceMul, Nat.reduceEqDiff, Nat.reduceLT, Nat.reduceLeDiff, Nat.reduceSub, Nat.reducePow, Nat.reduceBEq, Int.reduceToNat, List.reduceReplicate]
    repeat with_reducible refine cj ?_ ?_
    all_goals try first | omega
    refine hK4 _ _ _ ?_; clear hK4
    refine AW.ret ?_
    rw [← hQr]
    simp only [go_sem, reduceIte, reduceCtorEq, Nat.reduceAdd, Nat.reduceMul, Nat.reduceEqDiff, Nat.reduceLT, Nat.reduceLeDiff, Nat.reduceSub, Nat.reducePow, Nat.reduceBEq, Int.reduceToNat, List.reduceReplicate]
    exact Wk.refl _
theorem median_r (P : List (Int × Int)) (hA : Asc P) (hl : P.length ≤ 1000) (i j k : Nat) (hij : i ≤ j) (hjk : j ≤ k) (hk : k < P.length) : Reads Try.prog 79 false [.rsl 2 (P.map pairV), .int .i64 i, .int .i64 j, .int .i64 k, .rptr [.int .i64 0], .fn 45 []] (.int .i64 j) := by
  have h1 := order2_r P hA hl i j hij (by omega)
  have h2 := order2_r P hA hl j k hjk hk
  refine Reads.body (rs := [.tmp 12]) Try.func79 rfl Try.ntmps79 rfl (by simp) ?_
  generalize hQr : retQ _ _ _ = Qr
  refine AW.seq fun K1 hK1 => ?_
  -- region 0
  refine AW.regionK 0 (fun _ => none) [0, 1, 2, 3, 4, 5] [] ?_
  simp only [go_sem, reduceIte, reduceCtorEq, Nat.reduceAdd, Nat.reduceMul, Nat.reduceEqDiff, Nat.reduceLT, Nat.reduceLeDiff, Nat.reduceSub, Nat.reducePow, Nat.reduceBEq, Int.reduceToNat, List.reduceReplicate]
  repeat with_reducible refine cj ?_ ?_
  all_goals try first | omega
  refine hK1 _ _ _ ?_; clear hK1
  refine AW.seq fun K2 hK2 => ?_
  -- region 1
  refine AW.regionK 0 (fun ii => if ii = 5 then some (.reads false (.tup [.int .i64 i, .int .i64 j])) else none) [0, 1, 2, 3, 4, 5] [] ?_
  simp only [go_sem, reduceIte, reduceCtorEq, Nat.reduceAdd, Nat.reduceMul, Nat.reduceEqDiff, Nat.reduceLT, Nat.reduceLeDiff, Nat.reduceSub, Nat.reducePow, Nat.reduceBEq, Int.reduceToNat, List.reduceReplicate]
  repeat with_reducible refine cj ?_ ?_
  all_goals try first | (exact h1) | omega | exact ent (by kernel_rfl)
  refine hK2 _ _ _ ?_; clear hK2
  refine AW.seq fun K3 hK3 => ?_
  -- region 2
  refine AW.regionK 0 (fun ii => if ii = 5 then some (.reads false (.tup [.int .i64 j, .int .i64 k])) else none) [0, 1, 2, 4, 5] [] ?_
  simp only [go_sem, reduceIte, reduceCtorEq, Nat.reduceAdd, Nat.reduceMul, Nat.reduceEqDiff, Nat.reduceLT, Nat.reduceLeDiff, Nat.reduceSub, Nat.reducePow, Nat.reduceBEq, Int.reduceToNat, List.reduceReplicate]
  repeat with_reducible refine cj ?_ ?_
  all_goals try first | (exact h2) | omega | exact ent (by kernel_rfl)
  refine hK3 _ _ _ ?_; clear hK3
  refine AW.seq fun K4 hK4 => ?_
  -- region 3
  refine AW.regionK 0 (fun ii => if ii = 5 then some (.reads false (.tup [.int .i64 i, .int .i64 j])) else none) [2] [] ?_
  simp only [go_sem, reduceIte, reduceCtorEq, Nat.reduceAdd, Nat.reduceMul, Nat.reduceEqDiff, Nat.reduceLT, Nat.reduceLeDiff, Nat.reduceSub, Nat.reducePow, Nat.reduceBEq, Int.reduceToNat, List.reduceReplicate]
  repeat with_reducible refine cj ?_ ?_
  all_goals try first | (exact h1) | omega | exact ent (by kernel_rfl)
  refine hK4 _ _ _ ?_; clear hK4
  refine AW.seq fun K5 hK5 => ?_
  -- region 4
  refine AW.regionK 0 (fun _ => none) [12] [] ?_
  simp only [go_sem, reduceIte, reduceCtorEq, Nat.reduceAdd, Nat.reduceMul, Nat.reduceEqDiff, Nat.reduceLT, Nat.reduceLeDiff, Nat.reduceSub, Nat.reducePow, Nat.reduceBEq, Int.reduceToNat, List.reduceReplicate]
  repeat with_reducible refine cj ?_ ?_
  all_goals try first | omega
  refine hK5 _ _ _ ?_; clear hK5
  refine AW.ret ?_
  rw [← hQr]
  simp only [go_sem, reduceIte, reduceCtorEq, Nat.reduceAdd, Nat.reduceMul, Nat.reduceEqDiff, Nat.reduceLT, Nat.reduceLeDiff, Nat.reduceSub, Nat.reducePow, Nat.reduceBEq, Int.reduceToNat, List.reduceReplicate]
  exact Wk.refl _
theorem medadj_r (P : List (Int × Int)) (hA : Asc P) (hl : P.length ≤ 1000) (i : Nat) (h0 : 1 ≤ i) (hk : i + 1 < P.length) : Reads Try.prog 78 false [.rsl 2 (P.map pairV), .int .i64 i, .rptr [.int .i64 0], .fn 45 []] (.int .i64 i) := by
  have h1 := median_r P hA hl (i - 1) i (i + 1) (by omega) (by omega) hk
  rw [show ((i - 1 : Nat) : Int) = (i : Int) - 1 by omega, show ((i + 1 : Nat) : Int) = (i : Int) + 1 by omega] at h1
  refine Reads.body (rs := [.tmp 8]) Try.func78 rfl Try.ntmps78 rfl (by simp) ?_
  generalize hQr : retQ _ _ _ = Qr
  refine AW.seq fun K1 hK1 => ?_
  -- region 0
  refine AW.regionK 0 (fun _ => none) [0, 1, 2, 3] [] ?_
  simp only [go_sem, reduceIte, reduceCtorEq, Nat.reduceAdd, Nat.reduceMul, Nat.reduceEqDiff, Nat.reduceLT, Nat.reduceLeDiff, Nat.reduceSub, Nat.reducePow, Nat.reduceBEq, Int.reduceToNat, List.reduceReplicate]
  repeat with_reducible refine cj ?_ ?_
  all_goals try first | omega
  refine hK1 _ _ _ ?_; clear hK1
  refine AW.seq fun K2 hK2 => ?_
  -- region 1
  refine AW.regionK 0 (fun ii => if ii = 8 then some (.reads false (.int .i64 i)) else none) [8] [] ?_
  simp only [go_sem, reduceIte, reduceCtorEq, Nat.reduceAdd, Nat.reduceMul, Nat.reduceEqDiff, Nat.reduceLT, Nat.reduceLeDiff, Nat.reduceSub, Nat.reducePow, Nat.reduceBEq, Int.reduceToNat, List.reduceReplicate]
  repeat with_reducible refine cj ?_ ?_
  all_goals try first | (exact h1) | omega | exact ent (by kernel_rfl)
  refine hK2 _ _ _ ?_; clear hK2
  refine AW.ret ?_
  rw [← hQr]
  simp only [go_sem, reduceIte, reduceCtorEq, Nat.reduceAdd, Nat.reduceMul, Nat.reduceEqDiff, Nat.reduceLT, Nat.reduceLeDiff, Nat.reduceSub, Nat.reducePow, Nat.reduceBEq, Int.reduceToNat, List.reduceReplicate]
  exact Wk.refl _
theorem pivot_r (P : List (Int × Int)) (hA : Asc P) (hl : P.length ≤ 1000) (h12 : 12 < P.length) : Reads Try.prog 67 false [.rsl 2 (P.map pairV), .int .i64 0, .int .i64 P.length, .fn 45 []] (.tup [.int .i64 ((P.length / 4 * 2 : Nat) : Int), .int .i64 1]) := by
  obtain ⟨q, hq⟩ : ∃ q : Nat, q = P.length / 4 := ⟨_, rfl⟩
  have hqe : ((P.length : Int)).tdiv 4 = (q : Int) := by rw [Int.tdiv_eq_ediv_of_nonneg (by omega)]; omega
  have e1 : (0 : Int) + (q : Int) * 1 = (q : Int) := by omega
  have e2 : (0 : Int) + (q : Int) * 2 = ((q * 2 : Nat) : Int) := by omega
  have e3 : (0 : Int) + (q : Int) * 3 = ((q * 3 : Nat) : Int) := by omega
  rw [← hq]
  have m0 := Reads.flat (median_r P hA hl q (q * 2) (q * 3) (by omega) (by omega) (by omega)) rfl
  have ma := fun (i : Nat) (h1 : 1 ≤ i) (h2 : i + 1 < P.length) => Reads.flat (medadj_r P hA hl i h1 h2) rfl
  refine Reads.body (rs := [.tmp 8, .tmp 9]) Try.func67 rfl Try.ntmps67 rfl (by simp) ?_
  generalize hQr : retQ _ _ _ = Qr
  refine AW.seq fun K1 hK1 => ?_
  -- region 0
  refine AW.regionK 0 (fun _ => none) [0, 1, 2, 3] [11] ?_
  simp only [go_sem, reduceIte, reduceCtorEq, Nat.reduceAdd, Nat.reduceMul, Nat.reduceEqDiff, Nat.reduceLT, Nat.reduceLeDiff, Nat.reduceSub, Nat.reducePow, Nat.reduceBEq, Int.reduceToNat, List.reduceReplicate, Int.sub_zero, hqe, e1, e2, e3]
  repeat with_reducible refine cj ?_ ?_
  all_goals try first | omega
  refine hK1 _ _ _ ?_; clear hK1
  refine AW.seq fun K2 hK2 => ?_
  -- region 1
  refine AW.regionK 0 (fun _ => none) [0, 1, 3, 10] [11] ?_
  simp only [go_sem, reduceIte, reduceCtorEq, Nat.reduceAdd, Nat.reduceMul, Nat.reduceEqDiff, Nat.reduceLT, Nat.reduceLeDiff, Nat.reduceSub, Nat.reducePow, Nat.reduceBEq, Int.reduceToNat, List.reduceReplicate, Int.sub_zero, hqe, e1, e2, e3]
  repeat with_reducible refine cj ?_ ?_
  all_goals try first | omega
  refine hK2 _ _ _ ?_; clear hK2
  refine AW.seq fun K3 hK3 => ?_
  -- region 2
  refine AW.regionK 0 (fun _ => none) [0, 1, 3, 10, 11] [11] ?_
  simp only [go_sem, reduceIte, reduceCtorEq, Nat.reduceAdd, Nat.reduceMul, Nat.reduceEqDiff, Nat.reduceLT, Nat.reduceLeDiff, Nat.reduceSub, Nat.reducePow, Nat.reduceBEq, Int.reduceToNat, List.reduceReplicate, Int.sub_zero, hqe, e1, e2, e3]
  repeat with_reducible refine cj ?_ ?_
  all_goals try first | omega
  refine hK3 _ _ _ ?_; clear hK3
  refine AW.seq fun K4 hK4 => ?_
  -- region 3
  refine AW.regionK 0 (fun _ => none) [0, 1, 3, 10, 11, 12] [11] ?_
  simp only [go_sem, reduceIte, reduceCtorEq, Nat.reduceAdd, Nat.reduceMul, Nat.reduceEqDiff, Nat.reduceLT, Nat.reduceLeDiff, Nat.reduceSub, Nat.reducePow, Nat.reduceBEq, Int.reduceToNat, List.reduceReplicate, Int.sub_zero, hqe, e1, e2, e3]
  repeat with_reducible refine cj ?_ ?_
  all_goals try first | omega
  refine hK4 _ _ _ ?_; clear hK4
  refine AW.seq fun K5 hK5 => ?_
  -- region 4
  refine AW.regionK 0 (fun _ => none) [0, 1, 3, 10, 11, 12, 13] [11] ?_
  simp only [go_sem, reduceIte, reduceCtorEq, Nat.reduceAdd, Nat.reduceMul, Nat.reduceEqDiff, Nat.reduceLT, Nat.reduceLeDiff, Nat.reduceSub, Nat.reducePow, Nat.reduceBEq, Int.reduceToNat, List.reduceReplicate, Int.sub_zero, hqe, e1, e2, e3]
  repeat with_reducible refine cj ?_ ?_
  all_goals try first | omega
  refine hK5 _ _ _ ?_; clear hK5
  refine AW.seq fun K6 hK6 => ?_
  -- region 5
  refine AW.regionK 0 (fun _ => none) [0, 3, 10, 11, 12, 13, 14] [11] ?_
  simp only [go_sem, reduceIte, reduceCtorEq, Nat.reduceAdd, Nat.reduceMul, Nat.reduceEqDiff, Nat.reduceLT, Nat.reduceLeDiff, Nat.reduceSub, Nat.reducePow, Nat.reduceBEq, Int.reduceToNat, List.reduceReplicate, Int.sub_zero, hqe, e1, e2, e3]
  repeat with_reducible refine cj ?_ ?_
  all_goals try first | omega
  refine hK6 _ _ _ ?_; clear hK6
  refine AW.seq fun K7 hK7 => ?_
  refine AW.seq fun K8 hK8 => ?_
  -- region 6
  refine AW.regionK 0 (fun _ => none) [0, 3, 10, 11, 12, 13, 14, 34] [11] ?_
  simp only [go_sem, reduceIte, reduceCtorEq, Nat.reduceAdd, Nat.reduceMul, Nat.reduceEqDiff, Nat.reduceLT, Nat.reduceLeDiff, Nat.reduceSub, Nat.reducePow, Nat.reduceBEq, Int.reduceToNat, List.reduceReplicate, Int.sub_zero, hqe, e1, e2, e3]
  repeat with_reducible refine cj ?_ ?_
  all_goals try first | omega
  refine hK8 _ _ _ ?_; clear hK8
  -- cond 1
  refine AW.cond rfl (by simp only [go_sem, reduceIte, reduceCtorEq, Nat.reduceAdd, Nat.reduceMul, Nat.reduceEqDiff, Nat.reduceLT, Nat.reduceLeDiff, Nat.reduceSub, Nat.reducePow, Nat.reduceBEq, Int.reduceToNat, List.reduceReplicate]) ?_ ?_
  · intro hb
    try simp only [hB, decide_eq_true_eq, decide_eq_false_iff_not] at hb
    refine AW.seq fun K9 hK9 => ?_
    refine AW.seq fun K10 hK10 => ?_
    -- region 7
    refine AW.regionK 0 (fun _ => none) [0, 3, 11, 12, 13, 14, 36] [11] ?_
    simp only [go_sem, reduceIte, reduceCtorEq, Nat.reduceAdd, Nat.reduceMul, Nat.reduceEqDiff, Nat.reduceLT, Nat.reduceLeDiff, Nat.reduceSub, Nat.reducePow, Nat.reduceBEq, Int.reduceToNat, List.reduceReplicate, Int.sub_zero, hqe, e1, e2, e3]
    repeat with_reducible refine cj ?_ ?_
    all_goals try first | omega
    refine hK10 _ _ _ ?_; clear hK10
    have hJ2 : ∀ (g v : Nat) (kk : Nat), K9 [(0, .rsl 2 (P.map pairV)), (3, .fn 45 []), (11, .ptr ⟨11, g, none⟩ 0 0), (12, .int .i64 (q : Nat)), (13, .int .i64 ((q * 2 : Nat) : Int)), (14, .int .i64 ((q * 3 : Nat) : Int))] [(11, some ⟨g, v, 1, [[.int .i64 0]]⟩)] kk := by
      intro g v kk
      refine hK9 _ _ _ ?_; clear hK9
      -- region 11
      refine AW.regionK 0 (fun ii => if ii = 5 then some (.reads true (.int .i64 ((q * 2 : Nat) : Int))) else none) [11, 13] [11] ?_
      simp only [go_sem, reduceIte, reduceCtorEq, Nat.reduceAdd, Nat.reduceMul, Nat.reduceEqDiff, Nat.reduceLT, Nat.reduceLeDiff, Nat.reduceSub, Nat.reducePow, Nat.reduceBEq, Int.reduceToNat, List.reduceReplicate, Int.sub_zero, hqe, e1, e2, e3]
      repeat with_reducible refine cj ?_ ?_
      all_goals try first | (exact m0) | omega | exact ent (by kernel_rfl)
      refine hK7 _ _ _ ?_; clear hK7
      refine AW.seq fun K14 hK14 => ?_
      -- region 12
      refine AW.regionK 0 (fun _ => none) [13, 55] [11] ?_
      simp only [go_sem, reduceIte, reduceCtorEq, Nat.reduceAdd, Nat.reduceMul, Nat.reduceEqDiff, Nat.reduceLT, Nat.reduceLeDiff, Nat.reduceSub, Nat.reducePow, Nat.reduceBEq, Int.reduceToNat, List.reduceReplicate, Int.sub_zero, hqe, e1, e2, e3]
      repeat with_reducible refine cj ?_ ?_
      all_goals try first | omega
      refine hK14 _ _ _ ?_; clear hK14
      refine AW.block ?_
      refine AW.seq fun K15 hK15 => ?_
      -- region 14
      refine AW.regionK 0 (fun _ => none) [13, 55, 57] [11] ?_
      simp only [go_sem, reduceIte, reduceCtorEq, Nat.reduceAdd, Nat.reduceMul, Nat.reduceEqDiff, Nat.reduceLT, Nat.reduceLeDiff, Nat.reduceSub, Nat.reducePow, Nat.reduceBEq, Int.reduceToNat, List.reduceReplicate, Int.sub_zero, hqe, e1, e2, e3]
      repeat with_reducible refine cj ?_ ?_
      all_goals try first | omega
      refine hK15 _ _ _ ?_; clear hK15
      -- cond 3
      refine AW.cond rfl (by simp only [go_sem, reduceIte, reduceCtorEq, Nat.reduceAdd, Nat.reduceMul, Nat.reduceEqDiff, Nat.reduceLT, Nat.reduceLeDiff, Nat.reduceSub, Nat.reducePow, Nat.reduceBEq, Int.reduceToNat, List.reduceReplicate]) ?_ ?_
      · intro hb
        try simp only [hB, decide_eq_true_eq, decide_eq_false_iff_not] at hb
        refine AW.seq fun K16 hK16 => ?_
        -- region 15
        refine AW.regionK 0 (fun _ => none) [8, 9] [11] ?_
        simp only [go_sem, reduceIte, reduceCtorEq, Nat.reduceAdd, Nat.reduceMul, Nat.reduceEqDiff, Nat.reduceLT, Nat.reduceLeDiff, Nat.reduceSub, Nat.reducePow, Nat.reduceBEq, Int.reduceToNat, List.reduceReplicate, Int.sub_zero, hqe, e1, e2, e3]
        repeat with_reducible refine cj ?_ ?_
        all_goals try first | omega
        refine hK16 _ _ _ ?_; clear hK16
        refine AW.ret ?_
        rw [← hQr]
        simp only [go_sem, reduceIte, reduceCtorEq, Nat.reduceAdd, Nat.reduceMul, Nat.reduceEqDiff, Nat.reduceLT, Nat.reduceLeDiff, Nat.reduceSub, Nat.reducePow, Nat.reduceBEq, Int.reduceToNat, List.reduceReplicate, Int.sub_zero, hqe, e1, e2, e3]
        exact Wk.refl _
      · intro hb
        try simp only [hB, decide_eq_true_eq, decide_eq_false_iff_not] at hb
        exfalso; simp at hb
    -- cond 2
    refine AW.cond rfl (by simp only [go_sem, reduceIte, reduceCtorEq, Nat.reduceAdd, Nat.reduceMul, Nat.reduceEqDiff, Nat.reduceLT, Nat.reduceLeDiff, Nat.reduceSub, Nat.reducePow, Nat.reduceBEq, Int.reduceToNat, List.reduceReplicate]) ?_ ?_
    · intro hb
      try simp only [hB, decide_eq_true_eq, decide_eq_false_iff_not] at hb
      refine AW.seq fun K17 hK17 => ?_
      -- region 8
      refine AW.regionK 0 (fun ii => if ii = 3 then some (.reads true (.int .i64 (q : Nat))) else none) [0, 3, 11, 12, 13, 14] [11] ?_
      simp only [go_sem, reduceIte, reduceCtorEq, Nat.reduceAdd, Nat.reduceMul, Nat.reduceEqDiff, Nat.reduceLT, Nat.reduceLeDiff, Nat.reduceSub, Nat.reducePow, Nat.reduceBEq, Int.reduceToNat, List.reduceReplicate, Int.sub_zero, hqe, e1, e2, e3]
      repeat with_reducible refine cj ?_ ?_
      all_goals try first | (exact ma q (by omega) (by omega)) | omega | exact ent (by kernel_rfl)
      refine hK17 _ _ _ ?_; clear hK17
      refine AW.seq fun K18 hK18 => ?_
      -- region 9
      refine AW.regionK 0 (fun ii => if ii = 3 then some (.reads true (.int .i64 ((q * 2 : Nat) : Int))) else none) [0, 3, 11, 12, 13, 14] [11] ?_
      simp only [go_sem, reduceIte, reduceCtorEq, Nat.reduceAdd, Nat.reduceMul, Nat.reduceEqDiff, Nat.reduceLT, Nat.reduceLeDiff, Nat.reduceSub, Nat.reducePow, Nat.reduceBEq, Int.reduceToNat, List.reduceReplicate, Int.sub_zero, hqe, e1, e2, e3]
      repeat with_reducible refine cj ?_ ?_
      all_goals try first | (exact ma (q * 2) (by omega) (by omega)) | omega | exact ent (by kernel_rfl)
      refine hK18 _ _ _ ?_; clear hK18
      -- region 10
      refine AW.regionK 0 (fun ii => if ii = 3 then some (.reads true (.int .i64 ((q * 3 : Nat) : Int))) else none) [0, 3, 11, 12, 13, 14] [11] ?_
      simp only [go_sem, reduceIte, reduceCtorEq, Nat.reduceAdd, Nat.reduceMul, Nat.reduceEqDiff, Nat.reduceLT, Nat.reduceLeDiff, Nat.reduceSub, Nat.reducePow, Nat.reduceBEq, Int.reduceToNat, List.reduceReplicate, Int.sub_zero, hqe, e1, e2, e3]
      repeat with_reducible refine cj ?_ ?_
      all_goals try first | (exact ma (q * 3) (by omega) (by omega)) | omega | exact ent (by kernel_rfl)
      exact hJ2 _ _ _
    · intro hb
      try simp only [hB, decide_eq_true_eq, decide_eq_false_iff_not] at hb
      refine AW.keep [0, 3, 11, 12, 13, 14] [11] ?_
      try simp only [go_sem, reduceIte, reduceCtorEq, Nat.reduceAdd, Nat.reduceMul, Nat.reduceEqDiff, Nat.reduceLT, Nat.reduceLeDiff, Nat.reduceSub, Nat.reducePow, Nat.reduceBEq, Int.reduceToNat, List.reduceReplicate]
      refine AW.skip ?_
      exact hJ2 _ _ _
  · intro hb
    try simp only [hB, decide_eq_true_eq, decide_eq_false_iff_not] at hb
    exfalso; omega
theorem part_r (P : List (Int × Int)) (hA : Asc P) (hl : P.length ≤ 1000) (h12 : 12 < P.length) : Reads Try.prog 69 false [.rsl 2 (P.map pairV), .int .i64 0, .int .i64 P.length, .fn 45 []] (.bool true) := by
  refine Reads.body (rs := [.tmp 8]) Try.func69 rfl Try.ntmps69 rfl (by simp) ?_
  generalize hQr : retQ _ _ _ = Qr
  refine AW.seq fun K1 hK1 => ?_
  -- region 0
  refine AW.regionK 0 (fun _ => none) [0, 1, 2, 3] [] ?_
  simp only [go_sem, reduceIte, reduceCtorEq, Nat.reduceAdd, Nat.reduceMul, Nat.reduceEqDiff, Nat.reduceLT, Nat.reduceLeDiff, Nat.reduceSub, Nat.reducePow, Nat.reduceBEq, Int.reduceToNat, List.reduceReplicate]
  repeat with_reducible refine cj ?_ ?_
  all_goals try first | omega
  refine hK1 _ _ _ ?_; clear hK1
  refine AW.seq fun K2 hK2 => ?_
  -- region 1
  refine AW.regionK 0 (fun _ => none) [0, 1, 2, 3, 9] [] ?_
  simp only [go_sem, reduceIte, reduceCtorEq, Nat.reduceAdd, Nat.reduceMul, Nat.reduceEqDiff, Nat.reduceLT, Nat.reduceLeDiff, Nat.reduceSub, Nat.reducePow, Nat.reduceBEq, Int.reduceToNat, List.reduceReplicate]
  repeat with_reducible refine cj ?_ ?_
  all_goals try first | omega
  refine hK2 _ _ _ ?_; clear hK2
  refine AW.seq fun K3 hK3 => ?_
  refine AW.seq fun K4 hK4 => ?_
  -- region 2
  refine AW.regionK 0 (fun _ => none) [0, 1, 2, 3, 9, 10] [] ?_
  simp only [go_sem, reduceIte, reduceCtorEq, Nat.reduceAdd, Nat.reduceMul, Nat.reduceEqDiff, Nat.reduceLT, Nat.reduceLeDiff, Nat.reduceSub, Nat.reducePow, Nat.reduceBEq, Int.reduceToNat, List.reduceReplicate]
  repeat with_reducible refine cj ?_ ?_
  all_goals try first | omega
  refine hK4 _ _ _ ?_; clear hK4
  refine AW.block ?_
  -- loop 1
  refine AW.loopE (fun mm ee ss kk => 0 + 1 = mm ∧ ee = [(0, .rsl 2 (P.map pairV)), (1, .int .i64 0), (2, .int .i64 P.length), (3, .fn 45 []), (9, .int .i64 1), (10, .int .i64 0)] ∧ ss = [] ∧ (True)) ?_ ?_
  · refine ⟨_, rfl, ?henv, ?hstore, ?hst⟩
    case henv =>
      repeat' (first | rfl | refine env_cons ?_ ?_ | refine st_cons ?_ ?_ ?_ ?_ | refine int_eq ?_ | refine bool_eq ?_ | refine rsl_eq ?_ | refine osl_eq ?_ | refine sl_eq ?_ ?_ ?_ | refine ptr_eq ?_ ?_ ?_ | refine agg_eq ?_ | refine es_cons ?_ ?_ | refine row_cons ?_ ?_)
      all_goals (first | (simp; done) | omega | (simp; omega))
    case hstore =>
      repeat' (first | rfl | refine env_cons ?_ ?_ | refine st_cons ?_ ?_ ?_ ?_ | refine int_eq ?_ | refine bool_eq ?_ | refine rsl_eq ?_ | refine osl_eq ?_ | refine sl_eq ?_ ?_ ?_ | refine ptr_eq ?_ ?_ ?_ | refine agg_eq ?_ | refine es_cons ?_ ?_ | refine row_cons ?_ ?_)
      all_goals (first | (simp; done) | omega | (simp; omega))
    case hst =>
      first | trivial | omega | (simp; done) | (simp; omega)
  rintro mm ee ss kk ⟨rfl, rfl, rfl, hI⟩
  generalize hQl1 : thenQ _ _ = Ql1
  refine AW.seq fun K5 hK5 => ?_
  refine AW.seq fun K6 hK6 => ?_
  -- region 3
  refine AW.regionK 0 (fun _ => none) [0, 1, 2, 3, 9, 10, 16] [] ?_
  simp only [go_sem, reduceIte, reduceCtorEq, Nat.reduceAdd, Nat.reduceMul, Nat.reduceEqDiff, Nat.reduceLT, Nat.reduceLeDiff, Nat.reduceSub, Nat.reducePow, Nat.reduceBEq, Int.reduceToNat, List.reduceReplicate]
  repeat with_reducible refine cj ?_ ?_
  all_goals try first | omega
  refine hK6 _ _ _ ?_; clear hK6
  -- cond 1
  refine AW.cond rfl (by simp only [go_sem, reduceIte, reduceCtorEq, Nat.reduceAdd, Nat.reduceMul, Nat.reduceEqDiff, Nat.reduceLT, Nat.reduceLeDiff, Nat.reduceSub, Nat.reducePow, Nat.reduceBEq, Int.reduceToNat, List.reduceReplicate]) ?_ ?_
  · intro hb
    try simp only [hB, decide_eq_true_eq, decide_eq_false_iff_not] at hb
    refine AW.skip ?_
    refine hK5 _ _ _ ?_; clear hK5
    refine AW.seq fun K7 hK7 => ?_
    refine AW.block ?_
    refine AW.seq fun K8 hK8 => ?_
    refine AW.block ?_
    refine AW.keep [0, 1, 2, 3, 9, 10] [] ?_
    simp only [go_sem, reduceIte, Nat.reduceEqDiff]
    -- loop 2
    refine AW.loopE (fun mm ee ss kk => ∃ (i : Nat), P.length - i = mm ∧ ee = [(0, .rsl 2 (P.map pairV)), (1, .int .i64 0), (2, .int .i64 P.length), (3, .fn 45 []), (9, .int .i64 ((i + 1 : Nat) : Int)), (10, .int .i64 0)] ∧ ss = [] ∧ (i + 1 ≤ P.length)) ?_ ?_
    · refine ⟨_, 0, rfl, ?henv, ?hstore, ?hst⟩
      case henv =>
        repeat' (first | rfl | refine env_cons ?_ ?_ | refine st_cons ?_ ?_ ?_ ?_ | refine int_eq ?_ | refine bool_eq ?_ | refine rsl_eq ?_ | refine osl_eq ?_ | refine sl_eq ?_ ?_ ?_ | refine ptr_eq ?_ ?_ ?_ | refine agg_eq ?_ | refine es_cons ?_ ?_ | refine row_cons ?_ ?_)
        all_goals (first | (simp; done) | omega | (simp; omega))
      case hstore =>
        repeat' (first | rfl | refine env_cons ?_ ?_ | refine st_cons ?_ ?_ ?_ ?_ | refine int_eq ?_ | refine bool_eq ?_ | refine rsl_eq ?_ | refine osl_eq ?_ | refine sl_eq ?_ ?_ ?_ | refine ptr_eq ?_ ?_ ?_ | refine agg_eq ?_ | refine es_cons ?_ ?_ | refine row_cons ?_ ?_)
        all_goals (first | (simp; done) | omega | (simp; omega))
      case hst =>
        first | trivial | omega | (simp; done) | (simp; omega)
    rintro mm ee ss kk ⟨i, rfl, rfl, rfl, hI⟩
    generalize hQl2 : thenQ _ _ = Ql2
    obtain ⟨a, ha⟩ := getI (l := P) (j := i) (by omega)
    have hga := getV (f := pairV) ha
    have e1 : ((i + 1 : Nat) : Int).toNat = i + 1 := by omega
    have e2 : (((i + 1 : Nat) : Int) - 1).toNat = i := by omega
    have hcase : (∃ b, P[i + 1]? = some b ∧ (P.map pairV).getD (i + 1) [] = pairV b) ∨ (P.length = i + 1 ∧ (P.map pairV).getD (i + 1) [] = []) := by
      by_cases h : i + 1 < P.length
      · obtain ⟨b, hb2⟩ := getI (l := P) (j := i + 1) h
        exact .inl ⟨b, hb2, getV (f := pairV) hb2⟩
      · exact .inr ⟨by omega, Go.AM.getD_out (by simp; omega) _⟩
    refine AW.seq fun K9 hK9 => ?_
    refine AW.seq fun K10 hK10 => ?_
    have hD5 : ∀  (kk : Nat), K10 [(0, .rsl 2 (P.map pairV)), (1, .int .i64 0), (2, .int .i64 P.length), (3, .fn 45 []), (9, .int .i64 ((i + 1 : Nat) : Int)), (10, .int .i64 0), (36, .bool (decide (((i + 1 : Nat) : Int) < (P.length : Int))))] [] kk := by
      intro  kk
      refine hK10 _ _ _ ?_; clear hK10
      -- cond 2
      refine AW.cond rfl (by simp only [go_sem, reduceIte, reduceCtorEq, Nat.reduceAdd, Nat.reduceMul, Nat.reduceEqDiff, Nat.reduceLT, Nat.reduceLeDiff, Nat.reduceSub, Nat.reducePow, Nat.reduceBEq, Int.reduceToNat, List.reduceReplicate]) ?_ ?_
      · intro hb
        try simp only [hB, decide_eq_true_eq, decide_eq_false_iff_not] at hb
        refine AW.skip ?_
        refine hK9 _ _ _ ?_; clear hK9
        refine AW.block ?_
        -- region 6
        refine AW.regionK 0 (fun _ => none) [0, 1, 2, 3, 9, 10] [] ?_
        simp only [go_sem, reduceIte, reduceCtorEq, Nat.reduceAdd, Nat.reduceMul, Nat.reduceEqDiff, Nat.reduceLT, Nat.reduceLeDiff, Nat.reduceSub, Nat.reducePow, Nat.reduceBEq, Int.reduceToNat, List.reduceReplicate]
        repeat with_reducible refine cj ?_ ?_
        all_goals try first | omega
        rw [← hQl2]
        change Exists _
        refine ⟨_, ?hm, i + 1, rfl, ?henv, ?hstore, ?hst⟩
        case henv =>
          repeat' (first | rfl | refine env_cons ?_ ?_ | refine st_cons ?_ ?_ ?_ ?_ | refine int_eq ?_ | refine bool_eq ?_ | refine rsl_eq ?_ | refine osl_eq ?_ | refine sl_eq ?_ ?_ ?_ | refine ptr_eq ?_ ?_ ?_ | refine agg_eq ?_ | refine es_cons ?_ ?_ | refine row_cons ?_ ?_)
          all_goals (first | (simp; done) | omega | (simp; omega))
        case hstore =>
          repeat' (first | rfl | refine env_cons ?_ ?_ | refine st_cons ?_ ?_ ?_ ?_ | refine int_eq ?_ | refine bool_eq ?_ | refine rsl_eq ?_ | refine osl_eq ?_ | refine sl_eq ?_ ?_ ?_ | refine ptr_eq ?_ ?_ ?_ | refine agg_eq ?_ | refine es_cons ?_ ?_ | refine row_cons ?_ ?_)
          all_goals (first | (simp; done) | omega | (simp; omega))
        case hst =>
          first | trivial | omega | (simp; done) | (simp; omega)
        case hm => omega
      · intro hb
        try simp only [hB, decide_eq_true_eq, decide_eq_false_iff_not] at hb
        refine AW.keep [0, 1, 2, 3, 9, 10] [] ?_
        try simp only [go_sem, reduceIte, reduceCtorEq, Nat.reduceAdd, Nat.reduceMul, Nat.reduceEqDiff, Nat.reduceLT, Nat.reduceLeDiff, Nat.reduceSub, Nat.reducePow, Nat.reduceBEq, Int.reduceToNat, List.reduceReplicate]
        refine AW.exit ?_
        rw [← hQl2]
        refine hK8 _ _ _ ?_; clear hK8
        refine AW.seq fun K14 hK14 => ?_
        refine AW.seq fun K15 hK15 => ?_
        -- region 7
        refine AW.regionK 0 (fun _ => none) [0, 1, 2, 3, 9, 10, 41] [] ?_
        simp only [go_sem, reduceIte, reduceCtorEq, Nat.reduceAdd, Nat.reduceMul, Nat.reduceEqDiff, Nat.reduceLT, Nat.reduceLeDiff, Nat.reduceSub, Nat.reducePow, Nat.reduceBEq, Int.reduceToNat, List.reduceReplicate]
        repeat with_reducible refine cj ?_ ?_
        all_goals try first | omega
        refine hK15 _ _ _ ?_; clear hK15
        -- cond 3
        refine AW.cond rfl (by simp only [go_sem, reduceIte, reduceCtorEq, Nat.reduceAdd, Nat.reduceMul, Nat.reduceEqDiff, Nat.reduceLT, Nat.reduceLeDiff, Nat.reduceSub, Nat.reducePow, Nat.reduceBEq, Int.reduceToNat, List.reduceReplicate]) ?_ ?_
        · intro hb
          try simp only [hB, decide_eq_true_eq, decide_eq_false_iff_not] at hb
          refine AW.seq fun K16 hK16 => ?_
          -- region 8
          refine AW.regionK 0 (fun _ => none) [8] [] ?_
          simp only [go_sem, reduceIte, reduceCtorEq, Nat.reduceAdd, Nat.reduceMul, Nat.reduceEqDiff, Nat.reduceLT, Nat.reduceLeDiff, Nat.reduceSub, Nat.reducePow, Nat.reduceBEq, Int.reduceToNat, List.reduceReplicate]
          repeat with_reducible refine cj ?_ ?_
          all_goals try first | omega
          refine hK16 _ _ _ ?_; clear hK16
          refine AW.ret ?_
          rw [← hQl1]
          rw [← hQr]
          simp only [go_sem, reduceIte, reduceCtorEq, Nat.reduceAdd, Nat.reduceMul, Nat.reduceEqDiff, Nat.reduceLT, Nat.reduceLeDiff, Nat.reduceSub, Nat.reducePow, Nat.reduceBEq, Int.reduceToNat, List.reduceReplicate]
          exact Wk.refl _
        · intro hb
          try simp only [hB, decide_eq_true_eq, decide_eq_false_iff_not] at hb
          exfalso; omega
    rcases hcase with ⟨b, hb2, hgb⟩ | ⟨hlen, hgb⟩
    · -- region 5
      have hlt : decide (((i + 1 : Nat) : Int) < (P.length : Int)) = true := decide_eq_true (by have := (List.getElem?_eq_some_iff.1 hb2).1; omega)
      have hnd : decide (cmpI b.1 a.1 < 0) = false := decide_eq_false (hA.cmp (by omega) ha hb2)
      have hc := acmp_r b a
      have hil := (List.getElem?_eq_some_iff.1 hb2).1
      unfold pairV at hc
      refine AW.regionD mixed 0 (fun ii => if ii = 14 then some (.reads false (.int .i64 (cmpI b.1 a.1))) else none) [0, 1, 2, 3, 9, 10, 36] [] ?_
      simp only [go_sem, reduceIte, reduceCtorEq, Nat.reduceAdd, Nat.reduceMul, Nat.reduceEqDiff, Nat.reduceLT, Nat.reduceLeDiff, Nat.reduceSub, Nat.reducePow, Nat.reduceBEq, Int.reduceToNat, List.reduceReplicate, hga, hgb, pairV, e1, e2, hlt, hnd]
      repeat with_reducible refine cj ?_ ?_
      all_goals try first | (first | exact hc | (intro hh; (repeat' apply And.intro) <;> first | exact hh | omega) | (intros; (repeat' apply And.intro) <;> first | omega | trivial)) | (intros; (repeat' apply And.intro) <;> first | assumption | (first | exact hc | (intro hh; (repeat' apply And.intro) <;> first | exact hh | omega) | (intros; (repeat' apply And.intro) <;> first | omega | trivial))) | omega | exact chk (by kernel_rfl) | exact ent (by kernel_rfl) | (intro hgd; exact absurd hgd (by decide)) | rfl | (simp only [go_sem, reduceIte, reduceCtorEq, Nat.reduceAdd, Nat.reduceMul, Nat.reduceEqDiff, Nat.reduceLT, Nat.reduceLeDiff, Nat.reduceSub, Nat.reducePow, Nat.reduceBEq, Int.reduceToNat, List.reduceReplicate, hga, hgb, pairV, e1, e2, hlt, hnd]; done) | (intro _hgd; simp_all [go_sem]; done)
      (have h5 := hD5; simp only [hlt] at h5; exact h5 _)
    · -- region 5
      have hlt : decide (((i + 1 : Nat) : Int) < (P.length : Int)) = false := decide_eq_false (by omega)
      have hnd := e1
      refine AW.regionD mixed 0 (fun ii => if ii = 14 then some (.skip) else none) [0, 1, 2, 3, 9, 10, 36] [] ?_
      simp only [go_sem, reduceIte, reduceCtorEq, Nat.reduceAdd, Nat.reduceMul, Nat.reduceEqDiff, Nat.reduceLT, Nat.reduceLeDiff, Nat.reduceSub, Nat.reducePow, Nat.reduceBEq, Int.reduceToNat, List.reduceReplicate, hga, hgb, pairV, e1, e2, hlt, hnd]
      repeat with_reducible refine cj ?_ ?_
      all_goals try first | ((intros; (repeat' apply And.intro) <;> first | omega | trivial)) | (intros; (repeat' apply And.intro) <;> first | assumption | ((intros; (repeat' apply And.intro) <;> first | omega | trivial))) | omega | exact chk (by kernel_rfl) | exact ent (by kernel_rfl) | (intro hgd; exact absurd hgd (by decide)) | rfl | (simp only [go_sem, reduceIte, reduceCtorEq, Nat.reduceAdd, Nat.reduceMul, Nat.reduceEqDiff, Nat.reduceLT, Nat.reduceLeDiff, Nat.reduceSub, Nat.reducePow, Nat.reduceBEq, Int.reduceToNat, List.reduceReplicate, hga, hgb, pairV, e1, e2, hlt, hnd]; done) | (intro _hgd; simp_all [go_sem]; done)
      (have h5 := hD5; simp only [hlt] at h5; exact h5 _)
  · intro hb
    try simp only [hB, decide_eq_true_eq, decide_eq_false_iff_not] at hb
    exfalso; omega
end Go.Proofs.M

namespace Go.Proofs.M
open Go.AM Go
set_option maxRecDepth 100000
set_option maxHeartbeats 2000000
theorem len64_r (x : Nat) (hx : x < 64) : ∃ v : Int, ((12 < x → 1 ≤ v) ∧ 0 ≤ v ∧ v ≤ 100) ∧ Reads Try.prog 73 false [.int .u64 x] (.int .i64 v) := by
  refine ⟨?v, ?hv, ?hr⟩
  case hr =>
    refine Reads.body (rs := [.tmp 2]) Try.func73 rfl Try.ntmps73 rfl (by simp) ?_
    generalize hQr : retQ _ _ _ = Qr
    refine AW.seq fun K1 hK1 => ?_
    -- region 0
    refine AW.regionK 0 (fun _ => none) [0, 2] [] ?_
    simp only [go_sem, reduceIte, reduceCtorEq, Nat.reduceAdd, Nat.reduceMul, Nat.reduceEqDiff, Nat.reduceLT, Nat.reduceLeDiff, Nat.reduceSub, Nat.reducePow, Nat.reduceBEq, Int.reduceToNat, List.reduceReplicate]
    repeat with_reducible refine cj ?_ ?_
    all_goals try first | omega
    refine hK1 _ _ _ ?_; clear hK1
    refine AW.seq fun K2 hK2 => ?_
    refine AW.seq fun K3 hK3 => ?_
    -- region 1
    refine AW.regionK 0 (fun _ => none) [0, 2, 4] [] ?_
    simp only [go_sem, reduceIte, reduceCtorEq, Nat.reduceAdd, Nat.reduceMul, Nat.reduceEqDiff, Nat.reduceLT, Nat.reduceLeDiff, Nat.reduceSub, Nat.reducePow, Nat.reduceBEq, Int.reduceToNat, List.reduceReplicate]
    repeat with_reducible refine cj ?_ ?_
    all_goals try first | omega
    refine hK3 _ _ _ ?_; clear hK3
    -- cond 1
    refine AW.cond rfl (by simp only [go_sem, reduceIte, reduceCtorEq, Nat.reduceAdd, Nat.reduceMul, Nat.reduceEqDiff, Nat.reduceLT, Nat.reduceLeDiff, Nat.reduceSub, Nat.reducePow, Nat.reduceBEq, Int.reduceToNat, List.reduceReplicate]) ?_ ?_
    · intro hb
      try simp only [hB, decide_eq_true_eq, decide_eq_false_iff_not] at hb
      exfalso; omega
    · intro hb
      try simp only [hB, decide_eq_true_eq, decide_eq_false_iff_not] at hb
      refine AW.skip ?_
      refine hK2 _ _ _ ?_; clear hK2
      refine AW.seq fun K4 hK4 => ?_
      refine AW.seq fun K5 hK5 => ?_
      -- region 4
      refine AW.regionK 0 (fun _ => none) [0, 2, 8] [] ?_
      simp only [go_sem, reduceIte, reduceCtorEq, Nat.reduceAdd, Nat.reduceMul, Nat.reduceEqDiff, Nat.reduceLT, Nat.reduceLeDiff, Nat.reduceSub, Nat.reducePow, Nat.reduceBEq, Int.reduceToNat, List.reduceReplicate]
      repeat with_reducible refine cj ?_ ?_
      all_goals try first | omega
      refine hK5 _ _ _ ?_; clear hK5
      -- cond 2
      refine AW.cond rfl (by simp only [go_sem, reduceIte, reduceCtorEq, Nat.reduceAdd, Nat.reduceMul, Nat.reduceEqDiff, Nat.reduceLT, Nat.reduceLeDiff, Nat.reduceSub, Nat.reducePow, Nat.reduceBEq, Int.reduceToNat, List.reduceReplicate]) ?_ ?_
      · intro hb
        try simp only [hB, decide_eq_true_eq, decide_eq_false_iff_not] at hb
        exfalso; omega
      · intro hb
        try simp only [hB, decide_eq_true_eq, decide_eq_false_iff_not] at hb
        refine AW.skip ?_
        refine hK4 _ _ _ ?_; clear hK4
        refine AW.seq fun K6 hK6 => ?_
        refine AW.seq fun K7 hK7 => ?_
        -- region 7
        refine AW.regionK 0 (fun _ => none) [0, 2, 14] [] ?_
        simp only [go_sem, reduceIte, reduceCtorEq, Nat.reduceAdd, Nat.reduceMul, Nat.reduceEqDiff, Nat.reduceLT, Nat.reduceLeDiff, Nat.reduceSub, Nat.reducePow, Nat.reduceBEq, Int.reduceToNat, List.reduceReplicate]
        repeat with_reducible refine cj ?_ ?_
        all_goals try first | omega
        refine hK7 _ _ _ ?_; clear hK7
        -- cond 3
        refine AW.cond rfl (by simp only [go_sem, reduceIte, reduceCtorEq, Nat.reduceAdd, Nat.reduceMul, Nat.reduceEqDiff, Nat.reduceLT, Nat.reduceLeDiff, Nat.reduceSub, Nat.reducePow, Nat.reduceBEq, Int.reduceToNat, List.reduceReplicate]) ?_ ?_
        · intro hb
          try simp only [hB, decide_eq_true_eq, decide_eq_false_iff_not] at hb
          exfalso; omega
        · intro hb
          try simp only [hB, decide_eq_true_eq, decide_eq_false_iff_not] at hb
          refine AW.skip ?_
          refine hK6 _ _ _ ?_; clear hK6
          refine AW.seq fun K8 hK8 => ?_
          -- region 10
          refine AW.regionK 0 (fun _ => none) [2] [] ?_
          simp only [go_sem, reduceIte, reduceCtorEq, Nat.reduceAdd, Nat.reduceMul, Nat.reduceEqDiff, Nat.reduceLT, Nat.reduceLeDiff, Nat.reduceSub, Nat.reducePow, Nat.reduceBEq, Int.reduceToNat, List.reduceReplicate]
          repeat with_reducible refine cj ?_ ?_
          all_goals try first | ((clear hQr; revert x; decide +kernel)) | omega
          refine hK8 _ _ _ ?_; clear hK8
          refine AW.ret ?_
          rw [← hQr]
          simp only [go_sem, reduceIte, reduceCtorEq, Nat.reduceAdd, Nat.reduceMul, Nat.reduceEqDiff, Nat.reduceLT, Nat.reduceLeDiff, Nat.reduceSub, Nat.reducePow, Nat.reduceBEq, Int.reduceToNat, List.reduceReplicate]
          exact Wk.refl _
  case hv => revert x; decide +kernel
theorem len_r (x : Nat) (hx : x < 64) : ∃ v : Int, ((12 < x → 1 ≤ v) ∧ 0 ≤ v ∧ v ≤ 100) ∧ Reads Try.prog 59 false [.int .u64 x] (.int .i64 v) := by
  obtain ⟨v, hv, h⟩ := len64_r x hx
  refine ⟨v, hv, ?_⟩
  refine Reads.body (rs := [.tmp 2]) Try.func59 rfl Try.ntmps59 rfl (by simp) ?_
  generalize hQr : retQ _ _ _ = Qr
  refine AW.seq fun K1 hK1 => ?_
  -- region 0
  refine AW.regionK 0 (fun _ => none) [0] [] ?_
  simp only [go_sem, reduceIte, reduceCtorEq, Nat.reduceAdd, Nat.reduceMul, Nat.reduceEqDiff, Nat.reduceLT, Nat.reduceLeDiff, Nat.reduceSub, Nat.reducePow, Nat.reduceBEq, Int.reduceToNat, List.reduceReplicate]
  repeat with_reducible refine cj ?_ ?_
  all_goals try first | omega
  refine hK1 _ _ _ ?_; clear hK1
  refine AW.seq fun K2 hK2 => ?_
  -- cond 1
  refine AW.cond rfl (by simp only [go_sem, reduceIte, reduceCtorEq, Nat.reduceAdd, Nat.reduceMul, Nat.reduceEqDiff, Nat.reduceLT, Nat.reduceLeDiff, Nat.reduceSub, Nat.reducePow, Nat.reduceBEq, Int.reduceToNat, List.reduceReplicate]) ?_ ?_
  · intro hb
    try simp only [hB, decide_eq_true_eq, decide_eq_false_iff_not] at hb
    simp at hb
  · intro hb
    try simp only [hB, decide_eq_true_eq, decide_eq_false_iff_not] at hb
    refine AW.skip ?_
    refine hK2 _ _ _ ?_; clear hK2
    refine AW.seq fun K3 hK3 => ?_
    -- region 2
    refine AW.regionK 0 (fun ii => if ii = 1 then some (.reads false (.int .i64 v)) else none) [2] [] ?_
    simp only [go_sem, reduceIte, reduceCtorEq, Nat.reduceAdd, Nat.reduceMul, Nat.reduceEqDiff, Nat.reduceLT, Nat.reduceLeDiff, Nat.reduceSub, Nat.reducePow, Nat.reduceBEq, Int.reduceToNat, List.reduceReplicate]
    repeat with_reducible refine cj ?_ ?_
    all_goals try first | (exact h) | omega | exact ent (by kernel_rfl)
    refine hK3 _ _ _ ?_; clear hK3
    refine AW.ret ?_
    rw [← hQr]
    simp only [go_sem, reduceIte, reduceCtorEq, Nat.reduceAdd, Nat.reduceMul, Nat.reduceEqDiff, Nat.reduceLT, Nat.reduceLeDiff, Nat.reduceSub, Nat.reducePow, Nat.reduceBEq, Int.reduceToNat, List.reduceReplicate]
    exact Wk.refl _
end Go.Proofs.M

/- One augmentation of a matching. -/
namespace Go.AM
def growP (nb : List (List Int)) (m : Nat) (L R : List Int) : Nat → Nat → Bool × List Int × List Int
  | 0, _ => (false, L, R)
  | f + 1, j => if gi L j < 0 ∧ (mtry nb (m + 1) (j : Int) (List.replicate m false) L R).1 = true then (true, (mtry nb (m + 1) (j : Int) (List.replicate m false) L R).2.2) else growP nb m L R f (j + 1)
structure Grown (n m : Nat) (nb : List (List Int)) (L R L' R' : List Int) : Prop where
  hM : Mch n m nb L' R'
  hL : ∃ l, l < n ∧ gi L l < 0 ∧ ∀ l', 0 ≤ gi L' l' ↔ (0 ≤ gi L l' ∨ l' = l)
  hR : ∀ r, 0 ≤ gi R r → 0 ≤ gi R' r
theorem growP_spec {n m : Nat} {nb : List (List Int)} (h1 : nb.length = n) (h2 : ∀ row ∈ nb, ∀ r ∈ row, 0 ≤ r ∧ r < (m : Int)) {L R : List Int} (h : Mch n m nb L R) : ∀ (f j : Nat), f + j = n →
    (∃ T : Nat → Prop, Tcl nb R T ∧ ∀ l, l < j → gi L l < 0 → ∀ r ∈ nbl nb l, T r.toNat) →
    ∀ b L' R', growP nb m L R f j = (b, L', R') → (b = true → Grown n m nb L R L' R') ∧ (b = false → L' = L ∧ R' = R ∧ NoAug nb n L R)
  | 0, j, hf, hT, b, L', R', hx => by
    simp only [growP, Prod.mk.injEq] at hx
    obtain ⟨rfl, rfl, rfl⟩ := hx
    refine ⟨fun h => (by cases h), fun _ => ⟨rfl, rfl, ?_⟩⟩
    obtain ⟨T, hT1, hT2⟩ := hT
    exact ⟨T, hT1, fun l hl => hT2 l (by omega)⟩
  | f + 1, j, hf, hT, b, L', R', hx => by
    obtain ⟨T, hT1, hT2⟩ := hT
    unfold growP at hx
    obtain ⟨⟨b2, s2, L2, R2⟩, hm⟩ : ∃ x, mtry nb (m + 1) (j : Int) (List.replicate m false) L R = x := ⟨_, rfl⟩
    rw [hm] at hx
    simp only at hx
    by_cases hfr : gi L j < 0
    · obtain ⟨a1, a2, a3⟩ := mtry_top h1 h2 h (by omega) hfr hm
      cases b2 with
      | true =>
        rw [if_pos ⟨hfr, rfl⟩] at hx
        simp only [Prod.mk.injEq] at hx
        obtain ⟨rfl, rfl, rfl⟩ := hx
        obtain ⟨b1, b2, b3⟩ := a1 rfl
        exact ⟨fun _ => ⟨b1, ⟨j, by omega, hfr, b2⟩, b3⟩, fun h => (by cases h)⟩
      | false =>
        rw [if_neg (by simp)] at hx
        obtain ⟨_, _, T2, c1, c2⟩ := a2 rfl
        refine growP_spec h1 h2 h f (j + 1) (by omega) ⟨fun r => T r ∨ T2 r, fun r hr => ?_, fun l hl hf r hr => ?_⟩ b L' R' hx
        · rcases hr with hr | hr
          · exact ⟨(hT1 r hr).1, fun x hx => .inl ((hT1 r hr).2 x hx)⟩
          · exact ⟨(c1 r hr).1, fun x hx => .inr ((c1 r hr).2 x hx)⟩
        · by_cases e : l = j
          · subst e; exact .inr (c2 r hr)
          · exact .inl (hT2 l (by omega) hf r hr)
    · rw [if_neg (fun h => hfr h.1)] at hx
      exact growP_spec h1 h2 h f (j + 1) (by omega) ⟨T, hT1, fun l hl hf2 => by
        by_cases e : l = j
        · subst e; exact absurd hf2 hfr
        · exact hT2 l (by omega) hf2⟩ b L' R' hx
theorem grow0 {n m : Nat} {nb : List (List Int)} (h1 : nb.length = n) (h2 : ∀ row ∈ nb, ∀ r ∈ row, 0 ≤ r ∧ r < (m : Int)) {L R : List Int} (h : Mch n m nb L R) {b : Bool} {L' R' : List Int} (hx : growP nb m L R n 0 = (b, L', R')) :
    (b = true → Grown n m nb L R L' R') ∧ (b = false → L' = L ∧ R' = R ∧ NoAug nb n L R) :=
  growP_spec h1 h2 h n 0 (by omega) ⟨fun _ => False, fun _ h => h.elim, fun l hl => by omega⟩ b L' R' hx
theorem Grown.count {n m : Nat} {nb : List (List Int)} {L R L' R' : List Int} (h : Grown n m nb L R L' R') : cnt (pL L') n = cnt (pL L) n + 1 := by
  obtain ⟨l, h1, h2, h3⟩ := h.hL
  have e : ∀ i, pL L' i = (pL L i || decide (i = l)) := fun i => by
    have := h3 i
    simp only [pL]
    rw [← Bool.decide_or]
    exact decide_eq_decide.2 this
  rw [show pL L' = fun i => pL L i || decide (i = l) from funext e]
  have hp : pL L l = false := by simp [pL]; omega
  clear h2 h3 e h
  have : ∀ n, cnt (fun i => pL L i || decide (i = l)) n = cnt (pL L) n + if l < n then 1 else 0 := by
    intro n
    induction n with
    | zero => rfl
    | succ n ih =>
      rw [cnt_succ, cnt_succ, ih]
      by_cases e : n = l
      · subst e; rw [hp]; simp
      · simp only [e, decide_false, Bool.or_false]
        have h1 : (if l < n then 1 else 0) = (if l < n + 1 then 1 else (0 : Nat)) := by split <;> split <;> omega
        rw [h1]; omega
  rw [this, if_pos h1]
end Go.AM

namespace Go.Proofs.M
open Go.AM Go
set_option maxRecDepth 100000
set_option maxHeartbeats 2000000
theorem pdq_r (P : List (Int × Int)) (hl : P.length ≤ 1000) (hA : Asc P) (v : Int) (hv : 12 < P.length → 1 ≤ v) (hv2 : 0 ≤ v ∧ v ≤ 100) : Reads Try.prog 58 false [.rsl 2 (P.map pairV), .int .i64 0, .int .i64 P.length, .int .i64 v, .fn 45 []] (.tup []) := by
  have hin := ins_r P hl hA
  have hpi := fun h => pivot_r P hA hl h
  have hpa := fun h => part_r P hA hl h
  refine Reads.body (rs := []) Try.func58 rfl Try.ntmps58 rfl (by simp) ?_
  generalize hQr : retQ _ _ _ = Qr
  refine AW.seq fun K1 hK1 => ?_
  -- region 0
  refine AW.regionK 0 (fun _ => none) [0, 1, 2, 3, 4, 10] [] ?_
  simp only [go_sem, reduceIte, reduceCtorEq, Nat.reduceAdd, Nat.reduceMul, Nat.reduceEqDiff, Nat.reduceLT, Nat.reduceLeDiff, Nat.reduceSub, Nat.reducePow, Nat.reduceBEq, Int.reduceToNat, List.reduceReplicate, Int.sub_zero]
  repeat with_reducible refine cj ?_ ?_
  all_goals try first | omega
  refine hK1 _ _ _ ?_; clear hK1
  refine AW.seq fun K2 hK2 => ?_
  -- region 1
  refine AW.regionK 0 (fun _ => none) [0, 1, 2, 3, 4, 10, 11] [] ?_
  simp only [go_sem, reduceIte, reduceCtorEq, Nat.reduceAdd, Nat.reduceMul, Nat.reduceEqDiff, Nat.reduceLT, Nat.reduceLeDiff, Nat.reduceSub, Nat.reducePow, Nat.reduceBEq, Int.reduceToNat, List.reduceReplicate, Int.sub_zero]
  repeat with_reducible refine cj ?_ ?_
  all_goals try first | omega
  refine hK2 _ _ _ ?_; clear hK2
  refine AW.block ?_
  -- loop 1
  refine AW.loopE (fun mm ee ss kk => 0 + 1 = mm ∧ ee = [(0, .rsl 2 (P.map pairV)), (1, .int .i64 0), (2, .int .i64 P.length), (3, .int .i64 v), (4, .fn 45 []), (10, .bool true), (11, .bool true)] ∧ ss = [] ∧ (True)) ?_ ?_
  · refine ⟨_, rfl, ?henv, ?hstore, ?hst⟩
    case henv =>
      repeat' (first | rfl | refine env_cons ?_ ?_ | refine st_cons ?_ ?_ ?_ ?_ | refine int_eq ?_ | refine bool_eq ?_ | refine rsl_eq ?_ | refine osl_eq ?_ | refine sl_eq ?_ ?_ ?_ | refine ptr_eq ?_ ?_ ?_ | refine agg_eq ?_ | refine es_cons ?_ ?_ | refine row_cons ?_ ?_)
      all_goals (first | (simp; done) | omega | (simp; omega))
    case hstore =>
      repeat' (first | rfl | refine env_cons ?_ ?_ | refine st_cons ?_ ?_ ?_ ?_ | refine int_eq ?_ | refine bool_eq ?_ | refine rsl_eq ?_ | refine osl_eq ?_ | refine sl_eq ?_ ?_ ?_ | refine ptr_eq ?_ ?_ ?_ | refine agg_eq ?_ | refine es_cons ?_ ?_ | refine row_cons ?_ ?_)
      all_goals (first | (simp; done) | omega | (simp; omega))
    case hst =>
      first | trivial | omega | (simp; done) | (simp; omega)
  rintro mm ee ss kk ⟨rfl, rfl, rfl, hI⟩
  generalize hQl1 : thenQ _ _ = Ql1
  refine AW.block ?_
  refine AW.seq fun K3 hK3 => ?_
  -- region 2
  refine AW.regionK 0 (fun _ => none) [0, 1, 2, 3, 4, 10, 11, 12] [] ?_
  simp only [go_sem, reduceIte, reduceCtorEq, Nat.reduceAdd, Nat.reduceMul, Nat.reduceEqDiff, Nat.reduceLT, Nat.reduceLeDiff, Nat.reduceSub, Nat.reducePow, Nat.reduceBEq, Int.reduceToNat, List.reduceReplicate, Int.sub_zero]
  repeat with_reducible refine cj ?_ ?_
  all_goals try first | omega
  refine hK3 _ _ _ ?_; clear hK3
  refine AW.seq fun K4 hK4 => ?_
  refine AW.seq fun K5 hK5 => ?_
  -- region 3
  refine AW.regionK 0 (fun _ => none) [0, 1, 2, 3, 4, 10, 11, 12, 25] [] ?_
  simp only [go_sem, reduceIte, reduceCtorEq, Nat.reduceAdd, Nat.reduceMul, Nat.reduceEqDiff, Nat.reduceLT, Nat.reduceLeDiff, Nat.reduceSub, Nat.reducePow, Nat.reduceBEq, Int.reduceToNat, List.reduceReplicate, Int.sub_zero]
  repeat with_reducible refine cj ?_ ?_
  all_goals try first | omega
  refine hK5 _ _ _ ?_; clear hK5
  -- cond 1
  refine AW.cond rfl (by simp only [go_sem, reduceIte, reduceCtorEq, Nat.reduceAdd, Nat.reduceMul, Nat.reduceEqDiff, Nat.reduceLT, Nat.reduceLeDiff, Nat.reduceSub, Nat.reducePow, Nat.reduceBEq, Int.reduceToNat, List.reduceReplicate]) ?_ ?_
  · intro hb
    try simp only [hB, decide_eq_true_eq, decide_eq_false_iff_not] at hb
    refine AW.seq fun K6 hK6 => ?_
    -- region 4
    refine AW.regionK 0 (fun ii => if ii = 4 then some (.reads false (.tup [])) else none) [] [] ?_
    simp only [go_sem, reduceIte, reduceCtorEq, Nat.reduceAdd, Nat.reduceMul, Nat.reduceEqDiff, Nat.reduceLT, Nat.reduceLeDiff, Nat.reduceSub, Nat.reducePow, Nat.reduceBEq, Int.reduceToNat, List.reduceReplicate, Int.sub_zero]
    repeat with_reducible refine cj ?_ ?_
    all_goals try first | (exact hin) | omega | exact ent (by kernel_rfl)
    refine hK6 _ _ _ ?_; clear hK6
    refine AW.ret ?_
    rw [← hQl1]
    rw [← hQr]
    simp only [go_sem, reduceIte, reduceCtorEq, Nat.reduceAdd, Nat.reduceMul, Nat.reduceEqDiff, Nat.reduceLT, Nat.reduceLeDiff, Nat.reduceSub, Nat.reducePow, Nat.reduceBEq, Int.reduceToNat, List.reduceReplicate, Int.sub_zero]
    exact Wk.refl _
  · intro hb
    try simp only [hB, decide_eq_true_eq, decide_eq_false_iff_not] at hb
    refine AW.skip ?_
    refine hK4 _ _ _ ?_; clear hK4
    refine AW.seq fun K7 hK7 => ?_
    refine AW.seq fun K8 hK8 => ?_
    -- region 5
    refine AW.regionK 0 (fun _ => none) [0, 1, 2, 3, 4, 10, 11, 12, 32] [] ?_
    simp only [go_sem, reduceIte, reduceCtorEq, Nat.reduceAdd, Nat.reduceMul, Nat.reduceEqDiff, Nat.reduceLT, Nat.reduceLeDiff, Nat.reduceSub, Nat.reducePow, Nat.reduceBEq, Int.reduceToNat, List.reduceReplicate, Int.sub_zero]
    repeat with_reducible refine cj ?_ ?_
    all_goals try first | omega
    refine hK8 _ _ _ ?_; clear hK8
    -- cond 2
    refine AW.cond rfl (by simp only [go_sem, reduceIte, reduceCtorEq, Nat.reduceAdd, Nat.reduceMul, Nat.reduceEqDiff, Nat.reduceLT, Nat.reduceLeDiff, Nat.reduceSub, Nat.reducePow, Nat.reduceBEq, Int.reduceToNat, List.reduceReplicate]) ?_ ?_
    · intro hb
      try simp only [hB, decide_eq_true_eq, decide_eq_false_iff_not] at hb
      exfalso; have := hv (by omega); omega
    · intro hb
      try simp only [hB, decide_eq_true_eq, decide_eq_false_iff_not] at hb
      refine AW.skip ?_
      refine hK7 _ _ _ ?_; clear hK7
      refine AW.seq fun K9 hK9 => ?_
      refine AW.seq fun K10 hK10 => ?_
      -- region 7
      refine AW.regionK 0 (fun _ => none) [0, 1, 2, 3, 4, 10, 11, 12, 39] [] ?_
      simp only [go_sem, reduceIte, reduceCtorEq, Nat.reduceAdd, Nat.reduceMul, Nat.reduceEqDiff, Nat.reduceLT, Nat.reduceLeDiff, Nat.reduceSub, Nat.reducePow, Nat.reduceBEq, Int.reduceToNat, List.reduceReplicate, Int.sub_zero]
      repeat with_reducible refine cj ?_ ?_
      all_goals try first | omega
      refine hK10 _ _ _ ?_; clear hK10
      -- cond 3
      refine AW.cond rfl (by simp only [go_sem, reduceIte, reduceCtorEq, Nat.reduceAdd, Nat.reduceMul, Nat.reduceEqDiff, Nat.reduceLT, Nat.reduceLeDiff, Nat.reduceSub, Nat.reducePow, Nat.reduceBEq, Int.reduceToNat, List.reduceReplicate]) ?_ ?_
      · intro hb
        try simp only [hB, decide_eq_true_eq, decide_eq_false_iff_not] at hb
        exfalso; simp at hb
      · intro hb
        try simp only [hB, decide_eq_true_eq, decide_eq_false_iff_not] at hb
        refine AW.skip ?_
        refine hK9 _ _ _ ?_; clear hK9
        refine AW.seq fun K11 hK11 => ?_
        -- region 10
        refine AW.regionK 0 (fun ii => if ii = 4 then some (.reads false (.tup [.int .i64 ((P.length / 4 * 2 : Nat) : Int), .int .i64 1])) else none) [0, 1, 2, 3, 4, 10, 11, 12, 13, 14] [] ?_
        simp only [go_sem, reduceIte, reduceCtorEq, Nat.reduceAdd, Nat.reduceMul, Nat.reduceEqDiff, Nat.reduceLT, Nat.reduceLeDiff, Nat.reduceSub, Nat.reducePow, Nat.reduceBEq, Int.reduceToNat, List.reduceReplicate, Int.sub_zero]
        repeat with_reducible refine cj ?_ ?_
        all_goals try first | (exact hpi (by omega)) | omega | exact ent (by kernel_rfl)
        refine hK11 _ _ _ ?_; clear hK11
        refine AW.seq fun K12 hK12 => ?_
        refine AW.seq fun K13 hK13 => ?_
        -- region 11
        refine AW.regionK 0 (fun _ => none) [0, 1, 2, 3, 4, 10, 11, 12, 13, 14, 56] [] ?_
        simp only [go_sem, reduceIte, reduceCtorEq, Nat.reduceAdd, Nat.reduceMul, Nat.reduceEqDiff, Nat.reduceLT, Nat.reduceLeDiff, Nat.reduceSub, Nat.reducePow, Nat.reduceBEq, Int.reduceToNat, List.reduceReplicate, Int.sub_zero]
        repeat with_reducible refine cj ?_ ?_
        all_goals try first | omega
        refine hK13 _ _ _ ?_; clear hK13
        -- cond 4
        refine AW.cond rfl (by simp only [go_sem, reduceIte, reduceCtorEq, Nat.reduceAdd, Nat.reduceMul, Nat.reduceEqDiff, Nat.reduceLT, Nat.reduceLeDiff, Nat.reduceSub, Nat.reducePow, Nat.reduceBEq, Int.reduceToNat, List.reduceReplicate]) ?_ ?_
        · intro hb
          try simp only [hB, decide_eq_true_eq, decide_eq_false_iff_not] at hb
          exfalso; simp at hb
        · intro hb
          try simp only [hB, decide_eq_true_eq, decide_eq_false_iff_not] at hb
          refine AW.skip ?_
          refine hK12 _ _ _ ?_; clear hK12
          refine AW.seq fun K14 hK14 => ?_
          refine AW.seq fun K15 hK15 => ?_
          -- region 15
          refine AW.regionK 0 (fun _ => none) [0, 1, 2, 3, 4, 10, 11, 12, 13, 75] [] ?_
          simp only [go_sem, reduceIte, reduceCtorEq, Nat.reduceAdd, Nat.reduceMul, Nat.reduceEqDiff, Nat.reduceLT, Nat.reduceLeDiff, Nat.reduceSub, Nat.reducePow, Nat.reduceBEq, Int.reduceToNat, List.reduceReplicate, Int.sub_zero]
          repeat with_reducible refine cj ?_ ?_
          all_goals try first | omega | (intros; (repeat' apply And.intro) <;> first | assumption | omega | decide) | (intro hgd; exact absurd hgd (by decide)) | rfl | (simp only [go_sem, reduceIte, reduceCtorEq, Nat.reduceAdd, Nat.reduceMul, Nat.reduceEqDiff, Nat.reduceLT, Nat.reduceLeDiff, Nat.reduceSub, Nat.reducePow, Nat.reduceBEq, Int.reduceToNat, List.reduceReplicate, Int.sub_zero]; done) | (intro _hgd; simp_all [go_sem]; done)
          refine hK15 _ _ _ ?_; clear hK15
          -- cond 5
          refine AW.cond rfl (by simp only [go_sem, reduceIte, reduceCtorEq, Nat.reduceAdd, Nat.reduceMul, Nat.reduceEqDiff, Nat.reduceLT, Nat.reduceLeDiff, Nat.reduceSub, Nat.reducePow, Nat.reduceBEq, Int.reduceToNat, List.reduceReplicate]) ?_ ?_
          · intro hb
            try simp only [hB, decide_eq_true_eq, decide_eq_false_iff_not] at hb
            refine AW.seq fun K16 hK16 => ?_
            -- region 16
            refine AW.regionK 0 (fun ii => if ii = 4 then some (.reads false (.bool true)) else none) [0, 1, 2, 3, 4, 10, 11, 12, 13, 80] [] ?_
            simp only [go_sem, reduceIte, reduceCtorEq, Nat.reduceAdd, Nat.reduceMul, Nat.reduceEqDiff, Nat.reduceLT, Nat.reduceLeDiff, Nat.reduceSub, Nat.reducePow, Nat.reduceBEq, Int.reduceToNat, List.reduceReplicate, Int.sub_zero]
            repeat with_reducible refine cj ?_ ?_
            all_goals try first | (exact hpa (by omega)) | omega | exact ent (by kernel_rfl)
            refine hK16 _ _ _ ?_; clear hK16
            -- cond 6
            refine AW.cond rfl (by simp only [go_sem, reduceIte, reduceCtorEq, Nat.reduceAdd, Nat.reduceMul, Nat.reduceEqDiff, Nat.reduceLT, Nat.reduceLeDiff, Nat.reduceSub, Nat.reducePow, Nat.reduceBEq, Int.reduceToNat, List.reduceReplicate]) ?_ ?_
            · intro hb
              try simp only [hB, decide_eq_true_eq, decide_eq_false_iff_not] at hb
              refine AW.ret ?_
              rw [← hQl1]
              rw [← hQr]
              simp only [go_sem, reduceIte, reduceCtorEq, Nat.reduceAdd, Nat.reduceMul, Nat.reduceEqDiff, Nat.reduceLT, Nat.reduceLeDiff, Nat.reduceSub, Nat.reducePow, Nat.reduceBEq, Int.reduceToNat, List.reduceReplicate, Int.sub_zero]
              exact Wk.refl _
            · intro hb
              try simp only [hB, decide_eq_true_eq, decide_eq_false_iff_not] at hb
              exfalso; simp at hb
          · intro hb
            try simp only [hB, decide_eq_true_eq, decide_eq_false_iff_not] at hb
            exfalso; simp at hb
theorem sort_r (P : List (Int × Int)) (hl : P.length < 64) (hA : Asc P) : Reads Try.prog 44 false [.rsl 2 (P.map pairV), .fn 45 []] (.tup []) := by
  obtain ⟨v, ⟨hv1, hv2⟩, hle⟩ := len_r P.length hl
  have hpd := pdq_r P (by omega) hA v hv1 hv2
  have hwr : IntKind.u64.wrap (P.length : Int) = P.length := by simp [IntKind.wrap, IntKind.signed, IntKind.bits]; omega
  refine Reads.body (rs := []) Try.func44 rfl Try.ntmps44 rfl (by simp) ?_
  generalize hQr : retQ _ _ _ = Qr
  refine AW.seq fun K1 hK1 => ?_
  -- region 0
  refine AW.regionK 0 (fun _ => none) [0, 1, 4] [] ?_
  simp only [go_sem, reduceIte, reduceCtorEq, Nat.reduceAdd, Nat.reduceMul, Nat.reduceEqDiff, Nat.reduceLT, Nat.reduceLeDiff, Nat.reduceSub, Nat.reducePow, Nat.reduceBEq, Int.reduceToNat, List.reduceReplicate, hwr]
  repeat with_reducible refine cj ?_ ?_
  all_goals try first | omega
  refine hK1 _ _ _ ?_; clear hK1
  -- region 1
  refine AW.regionK 0 (fun ii => if ii = 4 then some (.reads false (.int .i64 v)) else if ii = 6 then some (.reads false (.tup [])) else none) [] [] ?_
  simp only [go_sem, reduceIte, reduceCtorEq, Nat.reduceAdd, Nat.reduceMul, Nat.reduceEqDiff, Nat.reduceLT, Nat.reduceLeDiff, Nat.reduceSub, Nat.reducePow, Nat.reduceBEq, Int.reduceToNat, List.reduceReplicate, hwr]
  repeat with_reducible refine cj ?_ ?_
  all_goals try first | (first | exact hle | exact hpd) | omega | exact ent (by kernel_rfl)
  rw [← hQr]
  simp only [go_sem, reduceIte, reduceCtorEq, Nat.reduceAdd, Nat.reduceMul, Nat.reduceEqDiff, Nat.reduceLT, Nat.reduceLeDiff, Nat.reduceSub, Nat.reducePow, Nat.reduceBEq, Int.reduceToNat, List.reduceReplicate, hwr]
  exact Wk.refl _
theorem grow_u {n m : Nat} (hn : n ≤ 512) (hm : m ≤ 512) {nb : List (List Int)} (hb1 : nb.length = n) (hb2 : ∀ row ∈ nb, ∀ r ∈ row, 0 ≤ r ∧ r < (m : Int)) (hrl : ∀ row ∈ nb, row.length ≤ 100000) {L R : List Int} (hM : Mch n m nb L R) {b' : Bool} {L' R' : List Int} (hx : growP nb m L R n 0 = (b', L', R')) (g0 v0 g1 v1 g2 v2 : Nat) :
    Upd Try.prog 43 (graphS n m nb L R g0 v0 g1 v1 g2 v2) [.ptr ⟨0, g0, none⟩ 0 0] (fun _ => .bool b') (fun kk => graphS n m nb L' R' g0 kk g1 kk g2 kk) := by
  have hLl := hM.hL
  have hRl := hM.hR
  have hok := hM.ok hb1 hb2
  unfold graphS
  refine Upd.of_body (rs := [.tmp 2]) Try.func43 rfl Try.ntmps43 rfl (by simp) ?_
  intro k0 k hk0 hk1
  generalize hQr : retQ _ _ _ = Qr
  refine AW.seq fun K1 hK1 => ?_
  -- region 0
  refine AW.regionK 100 (fun _ => none) [0] [0, 1, 2] ?_
  simp only [go_sem, reduceIte, reduceCtorEq, Nat.reduceAdd, Nat.reduceMul, Nat.reduceEqDiff, Nat.reduceLT, Nat.reduceLeDiff, Nat.reduceSub, Nat.reducePow, Nat.reduceBEq, Int.reduceToNat, List.reduceReplicate, ints_len, hLl, graphS]
  repeat with_reducible refine cj ?_ ?_
  all_goals try first | omega
  refine hK1 _ _ _ ?_; clear hK1
  refine AW.seq fun K2 hK2 => ?_
  refine AW.seq fun K3 hK3 => ?_
  -- region 1
  refine AW.regionK 100 (fun _ => none) [0, 8, 9] [0, 1, 2] ?_
  simp only [go_sem, reduceIte, reduceCtorEq, Nat.reduceAdd, Nat.reduceMul, Nat.reduceEqDiff, Nat.reduceLT, Nat.reduceLeDiff, Nat.reduceSub, Nat.reducePow, Nat.reduceBEq, Int.reduceToNat, List.reduceReplicate, ints_len, hLl, graphS]
  repeat with_reducible refine cj ?_ ?_
  all_goals try first | omega
  refine hK3 _ _ _ ?_; clear hK3
  refine AW.block ?_
  -- loop 1
  refine AW.loopE (fun mm ee ss kk => ∃ (j v0 v1 v2 : Nat), n - j = mm ∧ ee = [(0, .ptr ⟨0, g0, none⟩ 0 0), (8, .int .i64 n), (9, .int .i64 (j : Nat))] ∧ ss = [(0, some ⟨g0, v0, 3, [[.rsl 1 (nbR nb), .sl ⟨1, g1, none⟩ 0 n none, .sl ⟨2, g2, none⟩ 0 m none]]⟩), (1, some ⟨g1, v1, 1, ints L⟩), (2, some ⟨g2, v2, 1, ints R⟩)] ∧ (j ≤ n ∧ growP nb m L R (n - j) j = (b', L', R'))) ?_ ?_
  · refine ⟨_, 0, ?_, ?_, ?_, rfl, ?henv, ?hstore, ?hst⟩
    case henv =>
      repeat' (first | rfl | refine env_cons ?_ ?_ | refine st_cons ?_ ?_ ?_ ?_ | refine int_eq ?_ | refine bool_eq ?_ | refine rsl_eq ?_ | refine osl_eq ?_ | refine sl_eq ?_ ?_ ?_ | refine ptr_eq ?_ ?_ ?_ | refine agg_eq ?_ | refine es_cons ?_ ?_ | refine row_cons ?_ ?_)
      all_goals (first | (simp; done) | omega | (simp; omega))
    case hstore =>
      repeat' (first | rfl | refine env_cons ?_ ?_ | refine st_cons ?_ ?_ ?_ ?_ | refine int_eq ?_ | refine bool_eq ?_ | refine rsl_eq ?_ | refine osl_eq ?_ | refine sl_eq ?_ ?_ ?_ | refine ptr_eq ?_ ?_ ?_ | refine agg_eq ?_ | refine es_cons ?_ ?_ | refine row_cons ?_ ?_)
      all_goals (first | (simp; done) | omega | (simp; omega))
    case hst =>
      exact ⟨by omega, hx⟩
  rintro mm ee ss kk ⟨j, v0, v1, v2, rfl, rfl, rfl, hI⟩
  generalize hQl1 : thenQ _ _ = Ql1
  obtain ⟨hj, hgo⟩ := hI
  refine AW.seq fun K4 hK4 => ?_
  -- region 2
  refine AW.regionK 100 (fun _ => none) [0, 8, 9, 10] [0, 1, 2] ?_
  simp only [go_sem, reduceIte, reduceCtorEq, Nat.reduceAdd, Nat.reduceMul, Nat.reduceEqDiff, Nat.reduceLT, Nat.reduceLeDiff, Nat.reduceSub, Nat.reducePow, Nat.reduceBEq, Int.reduceToNat, List.reduceReplicate, ints_len, hLl, graphS]
  repeat with_reducible refine cj ?_ ?_
  all_goals try first | omega
  refine hK4 _ _ _ ?_; clear hK4
  refine AW.seq fun K5 hK5 => ?_
  -- cond 1
  refine AW.cond rfl (by simp only [go_sem, reduceIte, reduceCtorEq, Nat.reduceAdd, Nat.reduceMul, Nat.reduceEqDiff, Nat.reduceLT, Nat.reduceLeDiff, Nat.reduceSub, Nat.reducePow, Nat.reduceBEq, Int.reduceToNat, List.reduceReplicate]) ?_ ?_
  · intro hb
    try simp only [hB, decide_eq_true_eq, decide_eq_false_iff_not] at hb
    have hjn : n - j = (n - (j + 1)) + 1 := by omega
    rw [hjn] at hgo
    unfold growP at hgo
    have hgl := ints_getD (l := L) (i := j) (by omega)
    rw [gi_eq (by omega)] at hgl
    obtain ⟨⟨b2, s2, L2, R2⟩, hm2⟩ : ∃ x, mtry nb (m + 1) (j : Int) (List.replicate m false) L R = x := ⟨_, rfl⟩
    have hau := aug_u hn hm hrl (j : Int) L R b2 s2 L2 R2 (by omega) (by omega) hok hm2 g0 v0 g1 v1 g2 v2
    have htop := fun hf => mtry_top hb1 hb2 hM (l := j) (by omega) hf hm2
    rw [hm2] at hgo
    simp only at hgo
    unfold graphS at hau
    obtain ⟨w, hw⟩ : ∃ w : Bool × List Int × List Int, w = if gi L j < 0 then (b2, L2, R2) else (false, L, R) := ⟨_, rfl⟩
    obtain ⟨bw, Lw, Rw⟩ := w
    refine AW.skip ?_
    refine hK5 _ _ _ ?_; clear hK5
    refine AW.seq fun K6 hK6 => ?_
    refine AW.block ?_
    refine AW.seq fun K7 hK7 => ?_
    -- region 3
    refine AW.regionK 100 (fun _ => none) [0, 3, 8, 9] [0, 1, 2] ?_
    simp only [go_sem, reduceIte, reduceCtorEq, Nat.reduceAdd, Nat.reduceMul, Nat.reduceEqDiff, Nat.reduceLT, Nat.reduceLeDiff, Nat.reduceSub, Nat.reducePow, Nat.reduceBEq, Int.reduceToNat, List.reduceReplicate, ints_len, hLl, graphS]
    repeat with_reducible refine cj ?_ ?_
    all_goals try first | omega
    refine hK7 _ _ _ ?_; clear hK7
    refine AW.seq fun K8 hK8 => ?_
    have hD4 : ∀ (w0 w1 w2 : Nat) (kk : Nat), K8 [(0, .ptr ⟨0, g0, none⟩ 0 0), (8, .int .i64 n), (9, .int .i64 (j : Nat)), (24, .bool bw)] [(0, some ⟨g0, w0, 3, [[.rsl 1 (nbR nb), .sl ⟨1, g1, none⟩ 0 n none, .sl ⟨2, g2, none⟩ 0 m none]]⟩), (1, some ⟨g1, w1, 1, ints Lw⟩), (2, some ⟨g2, w2, 1, ints Rw⟩)] kk := by
      intro w0 w1 w2 kk
      refine hK8 _ _ _ ?_; clear hK8
      -- cond 2
      refine AW.cond rfl (by simp only [go_sem, reduceIte, reduceCtorEq, Nat.reduceAdd, Nat.reduceMul, Nat.reduceEqDiff, Nat.reduceLT, Nat.reduceLeDiff, Nat.reduceSub, Nat.reducePow, Nat.reduceBEq, Int.reduceToNat, List.reduceReplicate]) ?_ ?_
      · intro hb
        try simp only [hB, decide_eq_true_eq, decide_eq_false_iff_not] at hb
        subst hb
        have hfr : gi L j < 0 := by
          by_cases hf : gi L j < 0
          · exact hf
          · rw [if_neg hf] at hw; simp at hw
        rw [if_pos hfr] at hw
        simp only [Prod.mk.injEq] at hw
        obtain ⟨rfl, rfl, rfl⟩ := hw
        rw [if_pos ⟨hfr, rfl⟩] at hgo
        simp only [Prod.mk.injEq] at hgo
        obtain ⟨rfl, rfl, rfl⟩ := hgo
        refine AW.seq fun K10 hK10 => ?_
        -- region 5
        refine AW.regionK 100 (fun _ => none) [2] [0, 1, 2] ?_
        simp only [go_sem, reduceIte, reduceCtorEq, Nat.reduceAdd, Nat.reduceMul, Nat.reduceEqDiff, Nat.reduceLT, Nat.reduceLeDiff, Nat.reduceSub, Nat.reducePow, Nat.reduceBEq, Int.reduceToNat, List.reduceReplicate, ints_len, hLl, graphS]
        repeat with_reducible refine cj ?_ ?_
        all_goals try first | omega
        refine hK10 _ _ _ ?_; clear hK10
        refine AW.ret ?_
        rw [← hQl1]
        rw [← hQr]
        simp only [go_sem, reduceIte, reduceCtorEq, Nat.reduceAdd, Nat.reduceMul, Nat.reduceEqDiff, Nat.reduceLT, Nat.reduceLeDiff, Nat.reduceSub, Nat.reducePow, Nat.reduceBEq, Int.reduceToNat, List.reduceReplicate, ints_len, hLl, graphS]
        refine ⟨[(0, 0, false), (1, 1, false), (2, 2, false)], ?_⟩
        simp only [go_sem, reduceIte, Nat.reduceEqDiff, renC_ints, graphS]
        first | rfl | exact ⟨rfl, rfl⟩
      · intro hb
        try simp only [hB, decide_eq_true_eq, decide_eq_false_iff_not] at hb
        subst hb
        have hsame : Lw = L ∧ Rw = R ∧ growP nb m L R (n - (j + 1)) (j + 1) = (b', L', R') := by
          by_cases hf : gi L j < 0
          · rw [if_pos hf] at hw
            simp only [Prod.mk.injEq] at hw
            obtain ⟨rfl, rfl, rfl⟩ := hw
            obtain ⟨q1, q2, _⟩ := (htop hf).2.1 rfl
            rw [if_neg (by simp)] at hgo
            exact ⟨q1, q2, hgo⟩
          · rw [if_neg hf] at hw
            simp only [Prod.mk.injEq] at hw
            rw [if_neg (fun h => hf h.1)] at hgo
            exact ⟨hw.2.1, hw.2.2, hgo⟩
        obtain ⟨rfl, rfl, hgo2⟩ := hsame
        refine AW.skip ?_
        refine hK6 _ _ _ ?_; clear hK6
        -- region 6
        refine AW.regionK 100 (fun _ => none) [0, 8, 9] [0, 1, 2] ?_
        simp only [go_sem, reduceIte, reduceCtorEq, Nat.reduceAdd, Nat.reduceMul, Nat.reduceEqDiff, Nat.reduceLT, Nat.reduceLeDiff, Nat.reduceSub, Nat.reducePow, Nat.reduceBEq, Int.reduceToNat, List.reduceReplicate, ints_len, hLl, graphS]
        repeat with_reducible refine cj ?_ ?_
        all_goals try first | omega
        rw [← hQl1]
        change Exists _
        refine ⟨_, ?hm, j + 1, ?_, ?_, ?_, rfl, ?henv, ?hstore, ?hst⟩
        case henv =>
          repeat' (first | rfl | refine env_cons ?_ ?_ | refine st_cons ?_ ?_ ?_ ?_ | refine int_eq ?_ | refine bool_eq ?_ | refine rsl_eq ?_ | refine osl_eq ?_ | refine sl_eq ?_ ?_ ?_ | refine ptr_eq ?_ ?_ ?_ | refine agg_eq ?_ | refine es_cons ?_ ?_ | refine row_cons ?_ ?_)
          all_goals (first | (simp; done) | omega | (simp; omega))
        case hstore =>
          repeat' (first | rfl | refine env_cons ?_ ?_ | refine st_cons ?_ ?_ ?_ ?_ | refine int_eq ?_ | refine bool_eq ?_ | refine rsl_eq ?_ | refine osl_eq ?_ | refine sl_eq ?_ ?_ ?_ | refine ptr_eq ?_ ?_ ?_ | refine agg_eq ?_ | refine es_cons ?_ ?_ | refine row_cons ?_ ?_)
          all_goals (first | (simp; done) | omega | (simp; omega))
        case hst =>
          exact ⟨by omega, hgo2⟩
        case hm => omega
    by_cases hf4 : gi L j < 0
    · -- region 4
      have hd4 : decide (gi L j < 0) = true := decide_eq_true hf4
      rw [if_pos hf4] at hw
      simp only [Prod.mk.injEq] at hw
      obtain ⟨k1, k2, k3⟩ := hw
      have k1 := k1.symm
      have k2 := k2.symm
      have k3 := k3.symm
      subst k1
      subst k2
      subst k3
      refine AW.regionK 100 (fun ii => if ii = 11 then some (.upd [0, 1, 2] (fun kk => [(0, some ⟨g0, kk, 3, [[.rsl 1 (nbR nb), .sl ⟨1, g1, none⟩ 0 n none, .sl ⟨2, g2, none⟩ 0 m none]]⟩), (1, some ⟨g1, kk, 1, ints L2⟩), (2, some ⟨g2, kk, 1, ints R2⟩)]) (fun _ => .bool b2)) else none) [0, 8, 9, 24] [0, 1, 2] ?_
      simp only [go_sem, reduceIte, reduceCtorEq, Nat.reduceAdd, Nat.reduceMul, Nat.reduceEqDiff, Nat.reduceLT, Nat.reduceLeDiff, Nat.reduceSub, Nat.reducePow, Nat.reduceBEq, Int.reduceToNat, List.reduceReplicate, ints_len, hLl, graphS, hgl, hd4]
      repeat with_reducible refine cj ?_ ?_
      all_goals try first | (exact hau) | (intros; (repeat' apply And.intro) <;> first | assumption | (exact hau)) | omega | exact ent (by kernel_rfl) | (intro hgd; exact absurd hgd (by decide)) | rfl | (simp only [go_sem, reduceIte, reduceCtorEq, Nat.reduceAdd, Nat.reduceMul, Nat.reduceEqDiff, Nat.reduceLT, Nat.reduceLeDiff, Nat.reduceSub, Nat.reducePow, Nat.reduceBEq, Int.reduceToNat, List.reduceReplicate, ints_len, hLl, graphS, hgl, hd4]; done) | (intro _hgd; simp_all [go_sem]; done)
      exact hD4 _ _ _ _
    · -- region 4
      have hd4 : decide (gi L j < 0) = false := decide_eq_false hf4
      rw [if_neg hf4] at hw
      simp only [Prod.mk.injEq] at hw
      obtain ⟨k1, k2, k3⟩ := hw
      have k2 := k2.symm
      have k3 := k3.symm
      subst k1
      subst k2
      subst k3
      refine AW.regionS 100 (fun ii => if ii = 11 then some (.skip) else none) [0, 8, 9, 24] [0, 1, 2] ?_
      simp only [go_sem, reduceIte, reduceCtorEq, Nat.reduceAdd, Nat.reduceMul, Nat.reduceEqDiff, Nat.reduceLT, Nat.reduceLeDiff, Nat.reduceSub, Nat.reducePow, Nat.reduceBEq, Int.reduceToNat, List.reduceReplicate, ints_len, hLl, graphS, hgl, hd4]
      repeat with_reducible refine cj ?_ ?_
      all_goals try first | (exact hau) | (intros; (repeat' apply And.intro) <;> first | assumption | (exact hau)) | omega | exact ent (by kernel_rfl) | (intro hgd; exact absurd hgd (by decide)) | rfl | (simp only [go_sem, reduceIte, reduceCtorEq, Nat.reduceAdd, Nat.reduceMul, Nat.reduceEqDiff, Nat.reduceLT, Nat.reduceLeDiff, Nat.reduceSub, Nat.reducePow, Nat.reduceBEq, Int.reduceToNat, List.reduceReplicate, ints_len, hLl, graphS, hgl, hd4]; done) | (intro _hgd; simp_all [go_sem]; done)
      exact hD4 _ _ _ _
  · intro hb
    try simp only [hB, decide_eq_true_eq, decide_eq_false_iff_not] at hb
    have hj2 : n - j = 0 := by omega
    rw [hj2] at hgo
    simp only [growP, Prod.mk.injEq] at hgo
    obtain ⟨rfl, rfl, rfl⟩ := hgo
    refine AW.keep [] [0, 1, 2] ?_
    try simp only [go_sem, reduceIte, reduceCtorEq, Nat.reduceAdd, Nat.reduceMul, Nat.reduceEqDiff, Nat.reduceLT, Nat.reduceLeDiff, Nat.reduceSub, Nat.reducePow, Nat.reduceBEq, Int.reduceToNat, List.reduceReplicate]
    refine AW.exit ?_
    rw [← hQl1]
    refine hK2 _ _ _ ?_; clear hK2
    refine AW.seq fun K11 hK11 => ?_
    -- region 7
    refine AW.regionK 100 (fun _ => none) [2] [0, 1, 2] ?_
    simp only [go_sem, reduceIte, reduceCtorEq, Nat.reduceAdd, Nat.reduceMul, Nat.reduceEqDiff, Nat.reduceLT, Nat.reduceLeDiff, Nat.reduceSub, Nat.reducePow, Nat.reduceBEq, Int.reduceToNat, List.reduceReplicate, ints_len, hLl, graphS]
    repeat with_reducible refine cj ?_ ?_
    all_goals try first | omega
    refine hK11 _ _ _ ?_; clear hK11
    refine AW.ret ?_
    rw [← hQr]
    simp only [go_sem, reduceIte, reduceCtorEq, Nat.reduceAdd, Nat.reduceMul, Nat.reduceEqDiff, Nat.reduceLT, Nat.reduceLeDiff, Nat.reduceSub, Nat.reducePow, Nat.reduceBEq, Int.reduceToNat, List.reduceReplicate, ints_len, hLl, graphS]
    refine ⟨[(0, 0, false), (1, 1, false), (2, 2, false)], ?_⟩
    simp only [go_sem, reduceIte, Nat.reduceEqDiff, renC_ints, graphS]
    first | rfl | exact ⟨rfl, rfl⟩
end Go.Proofs.M

namespace Go.Proofs.M
open Go.AM Go
set_option maxRecDepth 100000
set_option maxHeartbeats 2000000
theorem aug_bad (n m : Int) (E P : List (Int × Int)) (hl : E.length ≤ 9223372036854775807) (hv : validM n m E = false) : Reads Try.prog 28 false [.int .i64 n, .int .i64 m, .rsl 2 (E.map pairV), .rsl 2 (P.map pairV)] (.tup [.nilsl, .int .i64 1]) := by
  have hvr := mvalid_r n m E hl
  rw [hv] at hvr
  refine Reads.body (rs := [.tmp 8, .tmp 9]) Try.func28 rfl Try.ntmps28 rfl (by simp) ?_
  generalize hQr : retQ _ _ _ = Qr
  refine AW.seq fun K1 hK1 => ?_
  -- region 0
  refine AW.regionK 0 (fun _ => none) [0, 1, 2, 3] [] ?_
  simp only [go_sem, reduceIte, reduceCtorEq, Nat.reduceAdd, Nat.reduceMul, Nat.reduceEqDiff, Nat.reduceLT, Nat.reduceLeDiff, Nat.reduceSub, Nat.reducePow, Nat.reduceBEq, Int.reduceToNat, List.reduceReplicate]
  repeat with_reducible refine cj ?_ ?_
  all_goals try first | omega
  refine hK1 _ _ _ ?_; clear hK1
  refine AW.seq fun K2 hK2 => ?_
  refine AW.seq fun K3 hK3 => ?_
  -- region 1
  refine AW.regionK 0 (fun ii => if ii = 3 then some (.reads false (.bool false)) else none) [0, 1, 2, 3, 17] [] ?_
  simp only [go_sem, reduceIte, reduceCtorEq, Nat.reduceAdd, Nat.reduceMul, Nat.reduceEqDiff, Nat.reduceLT, Nat.reduceLeDiff, Nat.reduceSub, Nat.reducePow, Nat.reduceBEq, Int.reduceToNat, List.reduceReplicate]
  repeat with_reducible refine cj ?_ ?_
  all_goals try first | (exact hvr) | omega | exact ent (by kernel_rfl)
  refine hK3 _ _ _ ?_; clear hK3
  -- cond 1
  refine AW.cond rfl (by simp only [go_sem, reduceIte, reduceCtorEq, Nat.reduceAdd, Nat.reduceMul, Nat.reduceEqDiff, Nat.reduceLT, Nat.reduceLeDiff, Nat.reduceSub, Nat.reducePow, Nat.reduceBEq, Int.reduceToNat, List.reduceReplicate]) ?_ ?_
  · intro hb
    try simp only [hB, decide_eq_true_eq, decide_eq_false_iff_not] at hb
    refine AW.seq fun K4 hK4 => ?_
    -- region 2
    refine AW.regionK 0 (fun _ => none) [8, 9] [] ?_
    simp only [go_sem, reduceIte, reduceCtorEq, Nat.reduceAdd, Nat.reduceMul, Nat.reduceEqDiff, Nat.reduceLT, Nat.reduceLeDiff, Nat.reduceSub, Nat.reducePow, Nat.reduceBEq, Int.reduceToNat, List.reduceReplicate]
    repeat with_reducible refine cj ?_ ?_
    all_goals try first | omega
    refine hK4 _ _ _ ?_; clear hK4
    refine AW.ret ?_
    rw [← hQr]
    simp only [go_sem, reduceIte, reduceCtorEq, Nat.reduceAdd, Nat.reduceMul, Nat.reduceEqDiff, Nat.reduceLT, Nat.reduceLeDiff, Nat.reduceSub, Nat.reducePow, Nat.reduceBEq, Int.reduceToNat, List.reduceReplicate]
    exact Wk.refl _
  · intro hb
    try simp only [hB, decide_eq_true_eq, decide_eq_false_iff_not] at hb
    exact absurd hb (by simp)
theorem aug_f {n m : Nat} {E : List (Int × Int)} (h : Gd n m E) (P : List (Int × Int)) (hlP : P.length ≤ 9223372036854775807) (hmat : isMat E P = false) : Reads Try.prog 28 false [.int .i64 n, .int .i64 m, .rsl 2 (E.map pairV), .rsl 2 (P.map pairV)] (.tup [.nilsl, .int .i64 17]) := by
  have hvr := mvalid_r n m E (by have := h.hl; omega)
  rw [h.valid] at hvr
  have hpl := placed_bad h P hlP hmat
  refine Reads.body (rs := [.tmp 8, .tmp 9]) Try.func28 rfl Try.ntmps28 rfl (by simp) ?_
  generalize hQr : retQ _ _ _ = Qr
  refine AW.seq fun K1 hK1 => ?_
  -- region 0
  refine AW.regionK 0 (fun _ => none) [0, 1, 2, 3] [] ?_
  simp only [go_sem, reduceIte, reduceCtorEq, Nat.reduceAdd, Nat.reduceMul, Nat.reduceEqDiff, Nat.reduceLT, Nat.reduceLeDiff, Nat.reduceSub, Nat.reducePow, Nat.reduceBEq, Int.reduceToNat, List.reduceReplicate]
  repeat with_reducible refine cj ?_ ?_
  all_goals try first | omega
  refine hK1 _ _ _ ?_; clear hK1
  refine AW.seq fun K2 hK2 => ?_
  refine AW.seq fun K3 hK3 => ?_
  -- region 1
  refine AW.regionK 0 (fun ii => if ii = 3 then some (.reads false (.bool true)) else none) [0, 1, 2, 3, 17] [] ?_
  simp only [go_sem, reduceIte, reduceCtorEq, Nat.reduceAdd, Nat.reduceMul, Nat.reduceEqDiff, Nat.reduceLT, Nat.reduceLeDiff, Nat.reduceSub, Nat.reducePow, Nat.reduceBEq, Int.reduceToNat, List.reduceReplicate]
  repeat with_reducible refine cj ?_ ?_
  all_goals try first | (exact hvr) | omega | exact ent (by kernel_rfl)
  refine hK3 _ _ _ ?_; clear hK3
  -- cond 1
  refine AW.cond rfl (by simp only [go_sem, reduceIte, reduceCtorEq, Nat.reduceAdd, Nat.reduceMul, Nat.reduceEqDiff, Nat.reduceLT, Nat.reduceLeDiff, Nat.reduceSub, Nat.reducePow, Nat.reduceBEq, Int.reduceToNat, List.reduceReplicate]) ?_ ?_
  · intro hb
    try simp only [hB, decide_eq_true_eq, decide_eq_false_iff_not] at hb
    exact absurd hb (by simp)
  · intro hb
    try simp only [hB, decide_eq_true_eq, decide_eq_false_iff_not] at hb
    refine AW.skip ?_
    refine hK2 _ _ _ ?_; clear hK2
    refine AW.seq fun K4 hK4 => ?_
    -- region 3
    refine AW.regionK 0 (fun ii => if ii = 4 then some (.upd [] (fun _ => []) (fun _ => .tup [.nilp, .bool false])) else none) [10, 11] [] ?_
    simp only [go_sem, reduceIte, reduceCtorEq, Nat.reduceAdd, Nat.reduceMul, Nat.reduceEqDiff, Nat.reduceLT, Nat.reduceLeDiff, Nat.reduceSub, Nat.reducePow, Nat.reduceBEq, Int.reduceToNat, List.reduceReplicate]
    repeat with_reducible refine cj ?_ ?_
    all_goals try first | (exact hpl) | omega | exact ent (by kernel_rfl)
    refine hK4 _ _ _ ?_; clear hK4
    refine AW.seq fun K5 hK5 => ?_
    refine AW.seq fun K6 hK6 => ?_
    -- region 4
    refine AW.regionK 0 (fun _ => none) [10, 27] [] ?_
    simp only [go_sem, reduceIte, reduceCtorEq, Nat.reduceAdd, Nat.reduceMul, Nat.reduceEqDiff, Nat.reduceLT, Nat.reduceLeDiff, Nat.reduceSub, Nat.reducePow, Nat.reduceBEq, Int.reduceToNat, List.reduceReplicate]
    repeat with_reducible refine cj ?_ ?_
    all_goals try first | omega
    refine hK6 _ _ _ ?_; clear hK6
    -- cond 2
    refine AW.cond rfl (by simp only [go_sem, reduceIte, reduceCtorEq, Nat.reduceAdd, Nat.reduceMul, Nat.reduceEqDiff, Nat.reduceLT, Nat.reduceLeDiff, Nat.reduceSub, Nat.reducePow, Nat.reduceBEq, Int.reduceToNat, List.reduceReplicate]) ?_ ?_
    · intro hb
      try simp only [hB, decide_eq_true_eq, decide_eq_false_iff_not] at hb
      refine AW.seq fun K7 hK7 => ?_
      -- region 5
      refine AW.regionK 0 (fun _ => none) [8, 9] [] ?_
      simp only [go_sem, reduceIte, reduceCtorEq, Nat.reduceAdd, Nat.reduceMul, Nat.reduceEqDiff, Nat.reduceLT, Nat.reduceLeDiff, Nat.reduceSub, Nat.reducePow, Nat.reduceBEq, Int.reduceToNat, List.reduceReplicate]
      repeat with_reducible refine cj ?_ ?_
      all_goals try first | omega
      refine hK7 _ _ _ ?_; clear hK7
      refine AW.ret ?_
      rw [← hQr]
      simp only [go_sem, reduceIte, reduceCtorEq, Nat.reduceAdd, Nat.reduceMul, Nat.reduceEqDiff, Nat.reduceLT, Nat.reduceLeDiff, Nat.reduceSub, Nat.reducePow, Nat.reduceBEq, Int.reduceToNat, List.reduceReplicate]
      exact Wk.refl _
    · intro hb
      try simp only [hB, decide_eq_true_eq, decide_eq_false_iff_not] at hb
      exfalso; simp at hb
theorem plc_pl {n m : Nat} {E : List (Int × Int)} (hE : ∀ e ∈ E, edgeIn n m e = true) {P : List (Int × Int)} (hmat : isMat E P = true) : PlI n m E P (plc n m P) := by
  have h : ∀ j, j ≤ P.length → PlI n m E (P.take j) (plc n m (P.take j)) := by
    intro j
    induction j with
    | zero => intro _; exact plI_nil n m E
    | succ j ih =>
      intro hj
      obtain ⟨p, hp⟩ := getI (l := P) (j := j) (by omega)
      have hI := ih (by omega)
      have hbad := hI.bad hE hp
      rw [hmat] at hbad
      have hpe : p ∈ E := Decidable.byContradiction fun h => by cases hbad (.inl h)
      have hl0 : gi (plc n m (P.take j)).1 p.1.toNat < 0 := by by_cases h : 0 ≤ gi (plc n m (P.take j)).1 p.1.toNat; cases hbad (.inr (.inl h)); omega
      have hr0 : gi (plc n m (P.take j)).2 p.2.toNat < 0 := by by_cases h : 0 ≤ gi (plc n m (P.take j)).2 p.2.toNat; cases hbad (.inr (.inr h)); omega
      rw [plc_succ n m hp, show P.take (j + 1) = P.take j ++ [p] by rw [List.take_add_one, hp]; rfl]
      exact plI_snoc hE hI hpe hl0 hr0
  have := h P.length (Nat.le_refl _)
  rw [List.take_length] at this
  exact this
theorem aug_t {n m : Nat} {E : List (Int × Int)} (h : Gd n m E) (hn60 : n ≤ 60) (P : List (Int × Int)) (hlP : P.length ≤ 9223372036854775807) (hmat : isMat E P = true) {b' : Bool} {L' R' : List Int} (hx : growP (nbOf n E) m (plc n m P).1 (plc n m P).2 n 0 = (b', L', R')) (hL' : L'.length = n) (hR' : R'.length = m) :
    Reads Try.prog 28 false [.int .i64 n, .int .i64 m, .rsl 2 (E.map pairV), .rsl 2 (P.map pairV)] (if b' = true then .tup [.rsl 2 ((prsL L' n).map pairV), .int .i64 0] else .tup [.nilsl, .int .i64 7]) := by
  have hn := h.hn
  have hm := h.hm
  have hvr := mvalid_r n m E (by have := h.hl; omega)
  rw [h.valid] at hvr
  have hpl := placed_good h P hlP hmat
  have hgr := grow_u hn hm (nbOf_len n E) h.rng h.row (plc_pl h.hE hmat).hM hx
  have hpr := pairs_r (n := n) hn (nbR (nbOf n E)) (ints R') L' hL'
  have hso := sort_r (prsL L' n) (by have := prsL_le L' n; omega) (asc_prsL L' n)
  unfold graphS at hpl hgr
  have htL : (ints L').take n = ints L' := List.take_of_length_le (by rw [ints_len]; omega)
  have htR : (ints R').take m = ints R' := List.take_of_length_le (by rw [ints_len]; omega)
  generalize (plc n m P).1 = L at *
  generalize (plc n m P).2 = R at *
  generalize nbR (nbOf n E) = X at *
  clear hx
  refine Reads.body (rs := [.tmp 8, .tmp 9]) Try.func28 rfl Try.ntmps28 rfl (by simp) ?_
  generalize hQr : retQ _ _ _ = Qr
  refine AW.seq fun K1 hK1 => ?_
  -- region 0
  refine AW.regionK 0 (fun _ => none) [0, 1, 2, 3] [23, 1023, 2023] ?_
  simp only [go_sem, reduceIte, reduceCtorEq, Nat.reduceAdd, Nat.reduceMul, Nat.reduceEqDiff, Nat.reduceLT, Nat.reduceLeDiff, Nat.reduceSub, Nat.reducePow, Nat.reduceBEq, Int.reduceToNat, List.reduceReplicate]
  repeat with_reducible refine cj ?_ ?_
  all_goals try first | omega
  refine hK1 _ _ _ ?_; clear hK1
  refine AW.seq fun K2 hK2 => ?_
  refine AW.seq fun K3 hK3 => ?_
  -- region 1
  refine AW.regionK 0 (fun ii => if ii = 3 then some (.reads false (.bool true)) else none) [0, 1, 2, 3, 17] [23, 1023, 2023] ?_
  simp only [go_sem, reduceIte, reduceCtorEq, Nat.reduceAdd, Nat.reduceMul, Nat.reduceEqDiff, Nat.reduceLT, Nat.reduceLeDiff, Nat.reduceSub, Nat.reducePow, Nat.reduceBEq, Int.reduceToNat, List.reduceReplicate]
  repeat with_reducible refine cj ?_ ?_
  all_goals try first | (exact hvr) | omega | exact ent (by kernel_rfl)
  refine hK3 _ _ _ ?_; clear hK3
  -- cond 1
  refine AW.cond rfl (by simp only [go_sem, reduceIte, reduceCtorEq, Nat.reduceAdd, Nat.reduceMul, Nat.reduceEqDiff, Nat.reduceLT, Nat.reduceLeDiff, Nat.reduceSub, Nat.reducePow, Nat.reduceBEq, Int.reduceToNat, List.reduceReplicate]) ?_ ?_
  · intro hb
    try simp only [hB, decide_eq_true_eq, decide_eq_false_iff_not] at hb
    exact absurd hb (by simp)
  · intro hb
    try simp only [hB, decide_eq_true_eq, decide_eq_false_iff_not] at hb
    refine AW.skip ?_
    refine hK2 _ _ _ ?_; clear hK2
    refine AW.seq fun K4 hK4 => ?_
    -- region 3
    refine AW.regionK 0 (fun ii => if ii = 4 then some (.upd [] (fun k => [(0, some ⟨k, k, 3, [[.rsl 1 X, .sl ⟨1, k, none⟩ 0 n none, .sl ⟨2, k, none⟩ 0 m none]]⟩), (1, some ⟨k, k, 1, ints L⟩), (2, some ⟨k, k, 1, ints R⟩)]) (fun k => .tup [.ptr ⟨0, k, none⟩ 0 0, .bool true])) else none) [10, 11] [23, 1023, 2023] ?_
    simp only [go_sem, reduceIte, reduceCtorEq, Nat.reduceAdd, Nat.reduceMul, Nat.reduceEqDiff, Nat.reduceLT, Nat.reduceLeDiff, Nat.reduceSub, Nat.reducePow, Nat.reduceBEq, Int.reduceToNat, List.reduceReplicate]
    repeat with_reducible refine cj ?_ ?_
    all_goals try first | (exact hpl) | omega | exact ent (by kernel_rfl)
    refine hK4 _ _ _ ?_; clear hK4
    refine AW.seq fun K5 hK5 => ?_
    refine AW.seq fun K6 hK6 => ?_
    -- region 4
    refine AW.regionK 0 (fun _ => none) [10, 27] [23, 1023, 2023] ?_
    simp only [go_sem, reduceIte, reduceCtorEq, Nat.reduceAdd, Nat.reduceMul, Nat.reduceEqDiff, Nat.reduceLT, Nat.reduceLeDiff, Nat.reduceSub, Nat.reducePow, Nat.reduceBEq, Int.reduceToNat, List.reduceReplicate]
    repeat with_reducible refine cj ?_ ?_
    all_goals try first | omega
    refine hK6 _ _ _ ?_; clear hK6
    have hJ2 : ∀ (g0 v0 g1 v1 g2 v2 : Nat) (kk : Nat), K5 [(10, .ptr ⟨23, g0, none⟩ 0 0)] [(23, some ⟨g0, v0, 3, [[.rsl 1 X, .sl ⟨1023, g1, none⟩ 0 n none, .sl ⟨2023, g2, none⟩ 0 m none]]⟩), (1023, some ⟨g1, v1, 1, ints L⟩), (2023, some ⟨g2, v2, 1, ints R⟩)] kk := by
      intro g0 v0 g1 v1 g2 v2 kk
      refine hK5 _ _ _ ?_; clear hK5
      refine AW.seq fun K13 hK13 => ?_
      refine AW.seq fun K14 hK14 => ?_
      -- region 6
      refine AW.regionK 0 (fun ii => if ii = 1 then some (.upd [23, 1023, 2023] (fun kk => [(0, some ⟨g0, kk, 3, [[.rsl 1 X, .sl ⟨1, g1, none⟩ 0 n none, .sl ⟨2, g2, none⟩ 0 m none]]⟩), (1, some ⟨g1, kk, 1, ints L'⟩), (2, some ⟨g2, kk, 1, ints R'⟩)]) (fun _ => .bool b')) else none) [10, 30] [23, 1023, 2023] ?_
      simp only [go_sem, reduceIte, reduceCtorEq, Nat.reduceAdd, Nat.reduceMul, Nat.reduceEqDiff, Nat.reduceLT, Nat.reduceLeDiff, Nat.reduceSub, Nat.reducePow, Nat.reduceBEq, Int.reduceToNat, List.reduceReplicate]
      repeat with_reducible refine cj ?_ ?_
      all_goals try first | (exact hgr _ _ _ _ _ _) | omega | exact ent (by kernel_rfl)
      refine hK14 _ _ _ ?_; clear hK14
      -- cond 3
      refine AW.cond rfl (by simp only [go_sem, reduceIte, reduceCtorEq, Nat.reduceAdd, Nat.reduceMul, Nat.reduceEqDiff, Nat.reduceLT, Nat.reduceLeDiff, Nat.reduceSub, Nat.reducePow, Nat.reduceBEq, Int.reduceToNat, List.reduceReplicate]) ?_ ?_
      · intro hb
        try simp only [hB, decide_eq_true_eq, decide_eq_false_iff_not] at hb
        refine AW.seq fun K15 hK15 => ?_
        -- region 7
        refine AW.regionK 0 (fun _ => none) [8, 9] [23, 1023, 2023] ?_
        simp only [go_sem, reduceIte, reduceCtorEq, Nat.reduceAdd, Nat.reduceMul, Nat.reduceEqDiff, Nat.reduceLT, Nat.reduceLeDiff, Nat.reduceSub, Nat.reducePow, Nat.reduceBEq, Int.reduceToNat, List.reduceReplicate]
        repeat with_reducible refine cj ?_ ?_
        all_goals try first | omega
        refine hK15 _ _ _ ?_; clear hK15
        refine AW.ret ?_
        rw [← hQr]
        simp only [go_sem, reduceIte, reduceCtorEq, Nat.reduceAdd, Nat.reduceMul, Nat.reduceEqDiff, Nat.reduceLT, Nat.reduceLeDiff, Nat.reduceSub, Nat.reducePow, Nat.reduceBEq, Int.reduceToNat, List.reduceReplicate]
        exact Wk.of_eq (by rw [if_neg (by simp [hb])])
      · intro hb
        try simp only [hB, decide_eq_true_eq, decide_eq_false_iff_not] at hb
        refine AW.skip ?_
        refine hK13 _ _ _ ?_; clear hK13
        refine AW.seq fun K16 hK16 => ?_
        -- region 8
        refine AW.regionK 0 (fun ii => if ii = 1 then some (.upd [23, 1023, 2023] (fun _ => []) (fun _ => .rsl 2 ((prsL L' n).map pairV))) else none) [12] [23, 1023, 2023] ?_
        simp only [go_sem, reduceIte, reduceCtorEq, Nat.reduceAdd, Nat.reduceMul, Nat.reduceEqDiff, Nat.reduceLT, Nat.reduceLeDiff, Nat.reduceSub, Nat.reducePow, Nat.reduceBEq, Int.reduceToNat, List.reduceReplicate]
        repeat with_reducible refine cj ?_ ?_
        all_goals try first | (exact hpr.upd (by simp only [List.map_cons, List.map_nil, go_sem, reduceIte, Nat.reduceEqDiff, htL, htR, vwc_ints])) | omega | exact ent (by kernel_rfl)
        refine hK16 _ _ _ ?_; clear hK16
        refine AW.seq fun K17 hK17 => ?_
        -- region 9
        refine AW.regionK 0 (fun ii => if ii = 1 then some (.reads false (.tup [])) else none) [12] [23, 1023, 2023] ?_
        simp only [go_sem, reduceIte, reduceCtorEq, Nat.reduceAdd, Nat.reduceMul, Nat.reduceEqDiff, Nat.reduceLT, Nat.reduceLeDiff, Nat.reduceSub, Nat.reducePow, Nat.reduceBEq, Int.reduceToNat, List.reduceReplicate]
        repeat with_reducible refine cj ?_ ?_
        all_goals try first | (exact hso) | omega | exact ent (by kernel_rfl)
        refine hK17 _ _ _ ?_; clear hK17
        refine AW.seq fun K18 hK18 => ?_
        -- region 10
        refine AW.regionK 0 (fun _ => none) [8, 9] [23, 1023, 2023] ?_
        simp only [go_sem, reduceIte, reduceCtorEq, Nat.reduceAdd, Nat.reduceMul, Nat.reduceEqDiff, Nat.reduceLT, Nat.reduceLeDiff, Nat.reduceSub, Nat.reducePow, Nat.reduceBEq, Int.reduceToNat, List.reduceReplicate]
        repeat with_reducible refine cj ?_ ?_
        all_goals try first | omega
        refine hK18 _ _ _ ?_; clear hK18
        refine AW.ret ?_
        rw [← hQr]
        simp only [go_sem, reduceIte, reduceCtorEq, Nat.reduceAdd, Nat.reduceMul, Nat.reduceEqDiff, Nat.reduceLT, Nat.reduceLeDiff, Nat.reduceSub, Nat.reducePow, Nat.reduceBEq, Int.reduceToNat, List.reduceReplicate]
        exact Wk.of_eq (by rw [if_pos (by simpa using hb)])
    -- cond 2
    refine AW.cond rfl (by simp only [go_sem, reduceIte, reduceCtorEq, Nat.reduceAdd, Nat.reduceMul, Nat.reduceEqDiff, Nat.reduceLT, Nat.reduceLeDiff, Nat.reduceSub, Nat.reducePow, Nat.reduceBEq, Int.reduceToNat, List.reduceReplicate]) ?_ ?_
    · intro hb
      try simp only [hB, decide_eq_true_eq, decide_eq_false_iff_not] at hb
      exfalso; simp at hb
    · intro hb
      try simp only [hB, decide_eq_true_eq, decide_eq_false_iff_not] at hb
      refine AW.keep [10] [23, 1023, 2023] ?_
      try simp only [go_sem, reduceIte, reduceCtorEq, Nat.reduceAdd, Nat.reduceMul, Nat.reduceEqDiff, Nat.reduceLT, Nat.reduceLeDiff, Nat.reduceSub, Nat.reducePow, Nat.reduceBEq, Int.reduceToNat, List.reduceReplicate]
      refine AW.skip ?_
      exact hJ2 _ _ _ _ _ _ _
end Go.Proofs.M

