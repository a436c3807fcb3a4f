/- Lemmas and contracts, part 5: an abstract machine over the model, and the functions that the statement reaches. -/
import Derived.Test.YtadfdoalifmkhaaMatchingMaxP4
import Derived.Carry
import Derived.RowKit
import Derived.OpenShut
import Derived.Below
import Derived.ChangeSame
import Derived.JoinedOf
import Derived.Handed
import Derived.Test.YtadfdoalifmkhaaRows
set_option linter.unusedVariables false
set_option linter.unusedSimpArgs false
namespace Go.Proofs.M
open Go.AM Go
set_option maxRecDepth 100000
set_option maxHeartbeats 2000000
def fillT (n j : Nat) : List Bool := List.replicate j true ++ List.replicate (n - j) false
theorem fillT_len {n j : Nat} (h : j ≤ n) : (fillT n j).length = n := by simp [fillT]; omega
theorem fillT_succ {n j : Nat} (h : j < n) : (fillT n j).set j true = fillT n (j + 1) := by
  unfold fillT
  rw [show n - j = (n - (j + 1)) + 1 by omega, List.replicate_succ, List.set_append_right _ _ (by simp)]
  simp [List.replicate_succ']
theorem fillT_all (n : Nat) : fillT n n = List.replicate n true := by simp [fillT]
/-- The reference's reached nodes. -/
def refM (n m : Nat) (E : List (Int × Int)) : FSt := reachF (maxLR (nbOf n E) n m n).2 E n m
theorem Gd.edg {n m : Nat} {E : List (Int × Int)} (h : Gd n m E) : ∀ e ∈ E, edgeIn n m e = true ∧ e.2 ∈ nbl (nbOf n E) e.1.toNat := fun e he => by
  have h1 := edgeIn_iff.1 (h.hE e he)
  refine ⟨h.hE e he, (nbOf_mem h.hE _ _).2 ?_⟩
  rw [Int.toNat_of_nonneg h1.1]; exact he
theorem Gd.ref {n m : Nat} {E : List (Int × Int)} (h : Gd n m E) : (refM n m E).1.length = n ∧ (refM n m E).2.length = m ∧ (∀ i, sg (refM n m E).1 i ↔ RL (nbOf n E) n (maxLR (nbOf n E) n m n).1 (maxLR (nbOf n E) n m n).2 i) ∧ ∀ r, sg (refM n m E).2 r ↔ RR (nbOf n E) n (maxLR (nbOf n E) n m n).1 (maxLR (nbOf n E) n m n).2 r :=
  reachF_spec h.max.1 h.edg fun l r hr => (nbOf_mem h.hE l r).1 hr
theorem rreached_u {n m : Nat} {E : List (Int × Int)} (h : Gd n m E) : Upd Try.prog 29 [] [.int .i64 n, .int .i64 m, .rsl 2 (E.map pairV)]
    (fun k => .tup [.sl ⟨0, k, none⟩ 0 n none, .sl ⟨1, k, none⟩ 0 m none]) (fun k => [(0, some ⟨k, k, 1, bools (refM n m E).1⟩), (1, some ⟨k, k, 1, bools (refM n m E).2⟩)]) := by
  have hn := h.hn
  have hm := h.hm
  have hmt := mates_r hn hm h.hE h.hl
  have hMch := h.max.1
  have hEd := h.edg
  have hEl := h.hl
  have hz1 : List.replicate n [AV.bool false] = bools (fillT n 0) := by simp [bools, fillT]
  have hz2 : List.replicate m [AV.bool false] = bools (List.replicate m false) := by simp [bools]
  obtain ⟨T, hT⟩ : ∃ T, refM n m E = T := ⟨_, rfl⟩
  have hT0 := hT
  rw [hT]
  have h0 : FIv n m (nbOf n E) (maxLR (nbOf n E) n m n).1 (maxLR (nbOf n E) n m n).2 (freeF (maxLR (nbOf n E) n m n).2 n m, List.replicate m false) := by
    have hfg := freeF_get hMch.hR hMch.hRn m (Nat.le_refl m)
    refine ⟨freeF_len _ n m, by simp, fun i hi => ?_, fun r hr => absurd hr (sg_none m r), fun r hr => absurd hr (sg_none m r), fun i hi h0 => ?_⟩
    · have hin : i < n := by
        have hfl := freeF_len (maxLR (nbOf n E) n m n).2 n m
        by_cases hh : i < n
        · exact hh
        · unfold sg at hi; rw [getD_out (by simp only; omega)] at hi; cases hi
      refine .free hin ?_
      have h1 := (hfg i hin).1 hi
      have hm := hMch.hLm i
      by_cases h2 : gi (maxLR (nbOf n E) n m n).1 i < 0
      · exact h2
      · have h3 := (hMch.hC i (gi (maxLR (nbOf n E) n m n).1 i).toNat).1 (by omega)
        exact absurd h3 (h1 _ (by omega))
    · exact (hfg i hi).2 fun r _ hr => by have := (hMch.hC i r).2 hr; omega
  unfold refM reachF at hT
  generalize nbOf n E = nb at *
  generalize hL : (maxLR nb n m n).1 = L at *
  generalize hR : (maxLR nb n m n).2 = R at *
  have hRl := hMch.hR
  have hRn := hMch.hRn
  clear hL hR
  refine Upd.of_body (rs := [.tmp 6, .tmp 7]) Try.func29 rfl Try.ntmps29 rfl (by simp) ?_
  intro k0 k hk0 hk1
  generalize hQr : retQ _ _ _ = Qr
  refine AW.seq fun K1 hK1 => ?_
  -- region 0
  refine AW.regionK 100 (fun _ => none) [0, 1, 2] [122, 124] ?_
  simp only [go_sem, reduceIte, reduceCtorEq, Nat.reduceAdd, Nat.reduceMul, Nat.reduceEqDiff, Nat.reduceLT, Nat.reduceLeDiff, Nat.reduceSub, Nat.reducePow, Nat.reduceBEq, Int.reduceToNat, List.reduceReplicate, ints_len, bools_len, hRl]
  repeat with_reducible refine cj ?_ ?_
  all_goals try first | omega
  refine hK1 _ _ _ ?_; clear hK1
  refine AW.seq fun K2 hK2 => ?_
  -- region 1
  refine AW.regionK 100 (fun ii => if ii = 3 then some (.reads true (.rsl 1 (ints R))) else none) [0, 1, 2, 8] [122, 124] ?_
  simp only [go_sem, reduceIte, reduceCtorEq, Nat.reduceAdd, Nat.reduceMul, Nat.reduceEqDiff, Nat.reduceLT, Nat.reduceLeDiff, Nat.reduceSub, Nat.reducePow, Nat.reduceBEq, Int.reduceToNat, List.reduceReplicate, ints_len, bools_len, hRl]
  repeat with_reducible refine cj ?_ ?_
  all_goals try first | (exact hmt) | omega | exact ent (by kernel_rfl)
  refine hK2 _ _ _ ?_; clear hK2
  refine AW.seq fun K3 hK3 => ?_
  -- region 2
  refine AW.regionD mixed 100 (fun _ => none) [0, 1, 2, 8, 9, 10] [122, 124] ?_
  simp only [go_sem, reduceIte, reduceCtorEq, Nat.reduceAdd, Nat.reduceMul, Nat.reduceEqDiff, Nat.reduceLT, Nat.reduceLeDiff, Nat.reduceSub, Nat.reducePow, Nat.reduceBEq, Int.reduceToNat, List.reduceReplicate, ints_len, bools_len, hRl, hz1, hz2]
  repeat with_reducible refine cj ?_ ?_
  all_goals try first | omega | exact chk (by kernel_rfl)
  refine hK3 _ _ _ ?_; clear hK3
  refine AW.seq fun K4 hK4 => ?_
  refine AW.seq fun K5 hK5 => ?_
  -- region 3
  refine AW.regionK 100 (fun _ => none) [0, 1, 2, 8, 9, 10, 11] [122, 124] ?_
  simp only [go_sem, reduceIte, reduceCtorEq, Nat.reduceAdd, Nat.reduceMul, Nat.reduceEqDiff, Nat.reduceLT, Nat.reduceLeDiff, Nat.reduceSub, Nat.reducePow, Nat.reduceBEq, Int.reduceToNat, List.reduceReplicate, ints_len, bools_len, hRl]
  repeat with_reducible refine cj ?_ ?_
  all_goals try first | omega
  refine hK5 _ _ _ ?_; clear hK5
  refine AW.block ?_
  -- loop 1
  refine AW.loopE (fun mm ee ss kk => ∃ (j g1 v1 g2 v2 : Nat), n - j = mm ∧ ee = [(0, .int .i64 n), (1, .int .i64 m), (2, .rsl 2 (E.map pairV)), (8, .rsl 1 (ints R)), (9, .sl ⟨122, g1, none⟩ 0 n none), (10, .sl ⟨124, g2, none⟩ 0 m none), (11, .int .i64 (j : Nat))] ∧ ss = [(122, some ⟨g1, v1, 1, bools (fillT n j)⟩), (124, some ⟨g2, v2, 1, bools (List.replicate m false)⟩)] ∧ (j ≤ n)) ?_ ?_
  · refine ⟨_, 0, ?_, ?_, ?_, ?_, rfl, ?henv, ?hstore, ?hst⟩
    case henv =>
      repeat' (first | rfl | refine env_cons ?_ ?_ | refine st_cons ?_ ?_ ?_ ?_ | refine int_eq ?_ | refine bool_eq ?_ | refine rsl_eq ?_ | refine osl_eq ?_ | refine sl_eq ?_ ?_ ?_ | refine ptr_eq ?_ ?_ ?_ | refine agg_eq ?_ | refine es_cons ?_ ?_ | refine row_cons ?_ ?_)
      all_goals (first | (simp; done) | omega | (simp; omega))
    case hstore =>
      repeat' (first | rfl | refine env_cons ?_ ?_ | refine st_cons ?_ ?_ ?_ ?_ | refine int_eq ?_ | refine bool_eq ?_ | refine rsl_eq ?_ | refine osl_eq ?_ | refine sl_eq ?_ ?_ ?_ | refine ptr_eq ?_ ?_ ?_ | refine agg_eq ?_ | refine es_cons ?_ ?_ | refine row_cons ?_ ?_)
      all_goals (first | (simp; done) | omega | (simp; omega))
    case hst =>
      first | trivial | omega | (simp; done) | (simp; omega)
  rintro mm ee ss kk ⟨j, g1, v1, g2, v2, rfl, rfl, rfl, hI⟩
  generalize hQl1 : thenQ _ _ = Ql1
  refine AW.seq fun K6 hK6 => ?_
  refine AW.seq fun K7 hK7 => ?_
  -- region 4
  refine AW.regionK 100 (fun _ => none) [0, 1, 2, 8, 9, 10, 11, 27] [122, 124] ?_
  simp only [go_sem, reduceIte, reduceCtorEq, Nat.reduceAdd, Nat.reduceMul, Nat.reduceEqDiff, Nat.reduceLT, Nat.reduceLeDiff, Nat.reduceSub, Nat.reducePow, Nat.reduceBEq, Int.reduceToNat, List.reduceReplicate, ints_len, bools_len, hRl]
  repeat with_reducible refine cj ?_ ?_
  all_goals try first | omega
  refine hK7 _ _ _ ?_; clear hK7
  -- cond 1
  refine AW.cond rfl (by simp only [go_sem, reduceIte, reduceCtorEq, Nat.reduceAdd, Nat.reduceMul, Nat.reduceEqDiff, Nat.reduceLT, Nat.reduceLeDiff, Nat.reduceSub, Nat.reducePow, Nat.reduceBEq, Int.reduceToNat, List.reduceReplicate]) ?_ ?_
  · intro hb
    try simp only [hB, decide_eq_true_eq, decide_eq_false_iff_not] at hb
    have hfl := fillT_len (n := n) (j := j) (by omega)
    have hus := bools_upd (fillT n j) j true
    rw [fillT_succ (by omega)] at hus
    refine AW.skip ?_
    refine hK6 _ _ _ ?_; clear hK6
    refine AW.seq fun K8 hK8 => ?_
    refine AW.block ?_
    -- region 6
    refine AW.regionK 100 (fun _ => none) [0, 1, 2, 8, 9, 10, 11] [122, 124] ?_
    simp only [go_sem, reduceIte, reduceCtorEq, Nat.reduceAdd, Nat.reduceMul, Nat.reduceEqDiff, Nat.reduceLT, Nat.reduceLeDiff, Nat.reduceSub, Nat.reducePow, Nat.reduceBEq, Int.reduceToNat, List.reduceReplicate, ints_len, bools_len, hRl, hfl, hus]
    repeat with_reducible refine cj ?_ ?_
    all_goals try first | omega
    refine hK8 _ _ _ ?_; clear hK8
    -- region 5
    refine AW.regionK 100 (fun _ => none) [0, 1, 2, 8, 9, 10, 11] [122, 124] ?_
    simp only [go_sem, reduceIte, reduceCtorEq, Nat.reduceAdd, Nat.reduceMul, Nat.reduceEqDiff, Nat.reduceLT, Nat.reduceLeDiff, Nat.reduceSub, Nat.reducePow, Nat.reduceBEq, Int.reduceToNat, List.reduceReplicate, ints_len, bools_len, hRl]
    repeat with_reducible refine cj ?_ ?_
    all_goals try first | omega
    rw [← hQl1]
    change Exists _
    refine ⟨_, ?hm, j + 1, ?_, ?_, ?_, ?_, rfl, ?henv, ?hstore, ?hst⟩
    case henv =>
      repeat' (first | rfl | refine env_cons ?_ ?_ | refine st_cons ?_ ?_ ?_ ?_ | refine int_eq ?_ | refine bool_eq ?_ | refine rsl_eq ?_ | refine osl_eq ?_ | refine sl_eq ?_ ?_ ?_ | refine ptr_eq ?_ ?_ ?_ | refine agg_eq ?_ | refine es_cons ?_ ?_ | refine row_cons ?_ ?_)
      all_goals (first | (simp; done) | omega | (simp; omega))
    case hstore =>
      repeat' (first | rfl | refine env_cons ?_ ?_ | refine st_cons ?_ ?_ ?_ ?_ | refine int_eq ?_ | refine bool_eq ?_ | refine rsl_eq ?_ | refine osl_eq ?_ | refine sl_eq ?_ ?_ ?_ | refine ptr_eq ?_ ?_ ?_ | refine agg_eq ?_ | refine es_cons ?_ ?_ | refine row_cons ?_ ?_)
      all_goals (first | (simp; done) | omega | (simp; omega))
    case hst =>
      first | trivial | omega | (simp; done) | (simp; omega)
    case hm => omega
  · intro hb
    try simp only [hB, decide_eq_true_eq, decide_eq_false_iff_not] at hb
    have hj : n = j := by omega
    subst hj
    rw [fillT_all]
    refine AW.keep [1, 2, 8, 9, 10] [122, 124] ?_
    try simp only [go_sem, reduceIte, reduceCtorEq, Nat.reduceAdd, Nat.reduceMul, Nat.reduceEqDiff, Nat.reduceLT, Nat.reduceLeDiff, Nat.reduceSub, Nat.reducePow, Nat.reduceBEq, Int.reduceToNat, List.reduceReplicate]
    refine AW.exit ?_
    rw [← hQl1]
    refine hK4 _ _ _ ?_; clear hK4
    refine AW.seq fun K9 hK9 => ?_
    refine AW.seq fun K10 hK10 => ?_
    -- region 7
    refine AW.regionK 100 (fun _ => none) [1, 2, 8, 9, 10, 12] [122, 124] ?_
    simp only [go_sem, reduceIte, reduceCtorEq, Nat.reduceAdd, Nat.reduceMul, Nat.reduceEqDiff, Nat.reduceLT, Nat.reduceLeDiff, Nat.reduceSub, Nat.reducePow, Nat.reduceBEq, Int.reduceToNat, List.reduceReplicate, ints_len, bools_len, hRl]
    repeat with_reducible refine cj ?_ ?_
    all_goals try first | omega
    refine hK10 _ _ _ ?_; clear hK10
    refine AW.block ?_
    -- loop 2
    refine AW.loopE (fun mm ee ss kk => ∃ (j g1 v1 g2 v2 : Nat), m - j = mm ∧ ee = [(1, .int .i64 m), (2, .rsl 2 (E.map pairV)), (8, .rsl 1 (ints R)), (9, .sl ⟨122, g1, none⟩ 0 n none), (10, .sl ⟨124, g2, none⟩ 0 m none), (12, .int .i64 (j : Nat))] ∧ ss = [(122, some ⟨g1, v1, 1, bools (freeF R n j)⟩), (124, some ⟨g2, v2, 1, bools (List.replicate m false)⟩)] ∧ (j ≤ m)) ?_ ?_
    · refine ⟨_, 0, ?_, ?_, ?_, ?_, rfl, ?henv, ?hstore, ?hst⟩
      case henv =>
        repeat' (first | rfl | refine env_cons ?_ ?_ | refine st_cons ?_ ?_ ?_ ?_ | refine int_eq ?_ | refine bool_eq ?_ | refine rsl_eq ?_ | refine osl_eq ?_ | refine sl_eq ?_ ?_ ?_ | refine ptr_eq ?_ ?_ ?_ | refine agg_eq ?_ | refine es_cons ?_ ?_ | refine row_cons ?_ ?_)
        all_goals (first | (simp; done) | omega | (simp; omega))
      case hstore =>
        repeat' (first | rfl | refine env_cons ?_ ?_ | refine st_cons ?_ ?_ ?_ ?_ | refine int_eq ?_ | refine bool_eq ?_ | refine rsl_eq ?_ | refine osl_eq ?_ | refine sl_eq ?_ ?_ ?_ | refine ptr_eq ?_ ?_ ?_ | refine agg_eq ?_ | refine es_cons ?_ ?_ | refine row_cons ?_ ?_)
        all_goals (first | (simp; done) | omega | (simp; omega))
      case hst =>
        first | trivial | omega | (simp; done) | (simp; omega)
    rintro mm ee ss kk ⟨j, g1, v1, g2, v2, rfl, rfl, rfl, hI⟩
    generalize hQl2 : thenQ _ _ = Ql2
    refine AW.seq fun K11 hK11 => ?_
    refine AW.seq fun K12 hK12 => ?_
    -- region 8
    refine AW.regionK 100 (fun _ => none) [1, 2, 8, 9, 10, 12, 35] [122, 124] ?_
    simp only [go_sem, reduceIte, reduceCtorEq, Nat.reduceAdd, Nat.reduceMul, Nat.reduceEqDiff, Nat.reduceLT, Nat.reduceLeDiff, Nat.reduceSub, Nat.reducePow, Nat.reduceBEq, Int.reduceToNat, List.reduceReplicate, ints_len, bools_len, hRl]
    repeat with_reducible refine cj ?_ ?_
    all_goals try first | omega
    refine hK12 _ _ _ ?_; clear hK12
    -- cond 2
    refine AW.cond rfl (by simp only [go_sem, reduceIte, reduceCtorEq, Nat.reduceAdd, Nat.reduceMul, Nat.reduceEqDiff, Nat.reduceLT, Nat.reduceLeDiff, Nat.reduceSub, Nat.reducePow, Nat.reduceBEq, Int.reduceToNat, List.reduceReplicate]) ?_ ?_
    · intro hb
      try simp only [hB, decide_eq_true_eq, decide_eq_false_iff_not] at hb
      have hfl := freeF_len R n j
      have hgR := ints_getD (l := R) (i := j) (by omega)
      have hrn := hRn j
      rw [← gi_eq (by omega)] at hrn
      have hus := bools_upd (freeF R n j) (R.getD j 0).toNat false
      have hsu : freeF R n (j + 1) = if 0 ≤ R.getD j 0 then (freeF R n j).set (R.getD j 0).toNat false else freeF R n j := rfl
      refine AW.skip ?_
      refine hK11 _ _ _ ?_; clear hK11
      refine AW.seq fun K13 hK13 => ?_
      refine AW.block ?_
      refine AW.seq fun K14 hK14 => ?_
      -- region 10
      refine AW.regionK 100 (fun _ => none) [1, 2, 8, 9, 10, 12, 42] [122, 124] ?_
      simp only [go_sem, reduceIte, reduceCtorEq, Nat.reduceAdd, Nat.reduceMul, Nat.reduceEqDiff, Nat.reduceLT, Nat.reduceLeDiff, Nat.reduceSub, Nat.reducePow, Nat.reduceBEq, Int.reduceToNat, List.reduceReplicate, ints_len, bools_len, hRl, hgR]
      repeat with_reducible refine cj ?_ ?_
      all_goals try first | omega
      refine hK14 _ _ _ ?_; clear hK14
      -- cond 3
      refine AW.cond rfl (by simp only [go_sem, reduceIte, reduceCtorEq, Nat.reduceAdd, Nat.reduceMul, Nat.reduceEqDiff, Nat.reduceLT, Nat.reduceLeDiff, Nat.reduceSub, Nat.reducePow, Nat.reduceBEq, Int.reduceToNat, List.reduceReplicate]) ?_ ?_
      · intro hb
        try simp only [hB, decide_eq_true_eq, decide_eq_false_iff_not] at hb
        rw [if_pos hb] at hsu
        -- region 11
        refine AW.regionK 100 (fun _ => none) [1, 2, 8, 9, 10, 12] [122, 124] ?_
        simp only [go_sem, reduceIte, reduceCtorEq, Nat.reduceAdd, Nat.reduceMul, Nat.reduceEqDiff, Nat.reduceLT, Nat.reduceLeDiff, Nat.reduceSub, Nat.reducePow, Nat.reduceBEq, Int.reduceToNat, List.reduceReplicate, ints_len, bools_len, hRl, hgR, hfl, hus]
        repeat with_reducible refine cj ?_ ?_
        all_goals try first | omega
        refine hK13 _ _ _ ?_; clear hK13
        -- region 9
        refine AW.regionK 100 (fun _ => none) [1, 2, 8, 9, 10, 12] [122, 124] ?_
        simp only [go_sem, reduceIte, reduceCtorEq, Nat.reduceAdd, Nat.reduceMul, Nat.reduceEqDiff, Nat.reduceLT, Nat.reduceLeDiff, Nat.reduceSub, Nat.reducePow, Nat.reduceBEq, Int.reduceToNat, List.reduceReplicate, ints_len, bools_len, hRl]
        repeat with_reducible refine cj ?_ ?_
        all_goals try first | omega
        rw [← hQl2]
        change Exists _
        refine ⟨_, ?hm, j + 1, ?_, ?_, ?_, ?_, rfl, ?henv, ?hstore, ?hst⟩
        case henv =>
          repeat' (first | rfl | refine env_cons ?_ ?_ | refine st_cons ?_ ?_ ?_ ?_ | refine int_eq ?_ | refine bool_eq ?_ | refine rsl_eq ?_ | refine osl_eq ?_ | refine sl_eq ?_ ?_ ?_ | refine ptr_eq ?_ ?_ ?_ | refine agg_eq ?_ | refine es_cons ?_ ?_ | refine row_cons ?_ ?_)
          all_goals (first | (simp; done) | omega | (simp; omega))
        case hstore =>
          repeat' (first | rfl | refine env_cons ?_ ?_ | refine st_cons ?_ ?_ ?_ ?_ | refine int_eq ?_ | refine bool_eq ?_ | refine rsl_eq ?_ | refine osl_eq ?_ | refine sl_eq ?_ ?_ ?_ | refine ptr_eq ?_ ?_ ?_ | refine agg_eq ?_ | refine es_cons ?_ ?_ | refine row_cons ?_ ?_)
          all_goals (rw [hsu])
        case hst =>
          first | trivial | omega | (simp; done) | (simp; omega)
        case hm => omega
      · intro hb
        try simp only [hB, decide_eq_true_eq, decide_eq_false_iff_not] at hb
        rw [if_neg (by omega)] at hsu
        refine AW.skip ?_
        refine hK13 _ _ _ ?_; clear hK13
        -- region 9
        refine AW.regionK 100 (fun _ => none) [1, 2, 8, 9, 10, 12] [122, 124] ?_
        simp only [go_sem, reduceIte, reduceCtorEq, Nat.reduceAdd, Nat.reduceMul, Nat.reduceEqDiff, Nat.reduceLT, Nat.reduceLeDiff, Nat.reduceSub, Nat.reducePow, Nat.reduceBEq, Int.reduceToNat, List.reduceReplicate, ints_len, bools_len, hRl]
        repeat with_reducible refine cj ?_ ?_
        all_goals try first | omega
        rw [← hQl2]
        change Exists _
        refine ⟨_, ?hm, j + 1, ?_, ?_, ?_, ?_, rfl, ?henv, ?hstore, ?hst⟩
        case henv =>
          repeat' (first | rfl | refine env_cons ?_ ?_ | refine st_cons ?_ ?_ ?_ ?_ | refine int_eq ?_ | refine bool_eq ?_ | refine rsl_eq ?_ | refine osl_eq ?_ | refine sl_eq ?_ ?_ ?_ | refine ptr_eq ?_ ?_ ?_ | refine agg_eq ?_ | refine es_cons ?_ ?_ | refine row_cons ?_ ?_)
          all_goals (first | (simp; done) | omega | (simp; omega))
        case hstore =>
          repeat' (first | rfl | refine env_cons ?_ ?_ | refine st_cons ?_ ?_ ?_ ?_ | refine int_eq ?_ | refine bool_eq ?_ | refine rsl_eq ?_ | refine osl_eq ?_ | refine sl_eq ?_ ?_ ?_ | refine ptr_eq ?_ ?_ ?_ | refine agg_eq ?_ | refine es_cons ?_ ?_ | refine row_cons ?_ ?_)
          all_goals (rw [hsu])
        case hst =>
          first | trivial | omega | (simp; done) | (simp; omega)
        case hm => omega
    · intro hb
      try simp only [hB, decide_eq_true_eq, decide_eq_false_iff_not] at hb
      have hj : m = j := by omega
      subst hj
      refine AW.keep [2, 8, 9, 10] [122, 124] ?_
      try simp only [go_sem, reduceIte, reduceCtorEq, Nat.reduceAdd, Nat.reduceMul, Nat.reduceEqDiff, Nat.reduceLT, Nat.reduceLeDiff, Nat.reduceSub, Nat.reducePow, Nat.reduceBEq, Int.reduceToNat, List.reduceReplicate]
      refine AW.exit ?_
      rw [← hQl2]
      refine hK9 _ _ _ ?_; clear hK9
      refine AW.seq fun K15 hK15 => ?_
      refine AW.seq fun K16 hK16 => ?_
      -- region 12
      refine AW.regionK 100 (fun _ => none) [2, 8, 9, 10, 13] [122, 124] ?_
      simp only [go_sem, reduceIte, reduceCtorEq, Nat.reduceAdd, Nat.reduceMul, Nat.reduceEqDiff, Nat.reduceLT, Nat.reduceLeDiff, Nat.reduceSub, Nat.reducePow, Nat.reduceBEq, Int.reduceToNat, List.reduceReplicate, ints_len, bools_len, hRl]
      repeat with_reducible refine cj ?_ ?_
      all_goals try first | omega
      refine hK16 _ _ _ ?_; clear hK16
      refine AW.block ?_
      -- loop 3
      refine AW.loopE (fun mm ee ss kk => ∃ (fu g1 v1 g2 v2 : Nat) (ch : Bool) (t : FSt), (cond ch (fu + 1) 0) = mm ∧ ee = [(2, .rsl 2 (E.map pairV)), (8, .rsl 1 (ints R)), (9, .sl ⟨122, g1, none⟩ 0 n none), (10, .sl ⟨124, g2, none⟩ 0 m none), (13, .bool ch)] ∧ ss = [(122, some ⟨g1, v1, 1, bools t.1⟩), (124, some ⟨g2, v2, 1, bools t.2⟩)] ∧ (FIv n m nb L R t ∧ (ch = true → uns t.2 < fu ∧ erun R E fu t = T) ∧ (ch = false → t = T))) ?_ ?_
      · refine ⟨_, (m + 1), ?_, ?_, ?_, ?_, true, (freeF R n m, List.replicate m false), rfl, ?henv, ?hstore, ?hst⟩
        case henv =>
          repeat' (first | rfl | refine env_cons ?_ ?_ | refine st_cons ?_ ?_ ?_ ?_ | refine int_eq ?_ | refine bool_eq ?_ | refine rsl_eq ?_ | refine osl_eq ?_ | refine sl_eq ?_ ?_ ?_ | refine ptr_eq ?_ ?_ ?_ | refine agg_eq ?_ | refine es_cons ?_ ?_ | refine row_cons ?_ ?_)
          all_goals (first | (simp; done) | omega | (simp; omega))
        case hstore =>
          repeat' (first | rfl | refine env_cons ?_ ?_ | refine st_cons ?_ ?_ ?_ ?_ | refine int_eq ?_ | refine bool_eq ?_ | refine rsl_eq ?_ | refine osl_eq ?_ | refine sl_eq ?_ ?_ ?_ | refine ptr_eq ?_ ?_ ?_ | refine agg_eq ?_ | refine es_cons ?_ ?_ | refine row_cons ?_ ?_)
          all_goals (first | (simp; done) | omega | (simp; omega))
        case hst =>
          exact ⟨h0, fun _ => ⟨by rw [uns_replicate]; omega, hT⟩, fun h => by cases h⟩
      rintro mm ee ss kk ⟨fu, g1, v1, g2, v2, ch, t, rfl, rfl, rfl, hI⟩
      generalize hQl3 : thenQ _ _ = Ql3
      obtain ⟨hF, hc1, hc2⟩ := hI
      refine AW.seq fun K17 hK17 => ?_
      refine AW.seq fun K18 hK18 => ?_
      -- region 13
      refine AW.regionK 100 (fun _ => none) [2, 8, 9, 10, 49] [122, 124] ?_
      simp only [go_sem, reduceIte, reduceCtorEq, Nat.reduceAdd, Nat.reduceMul, Nat.reduceEqDiff, Nat.reduceLT, Nat.reduceLeDiff, Nat.reduceSub, Nat.reducePow, Nat.reduceBEq, Int.reduceToNat, List.reduceReplicate, ints_len, bools_len, hRl]
      repeat with_reducible refine cj ?_ ?_
      all_goals try first | omega
      refine hK18 _ _ _ ?_; clear hK18
      -- cond 4
      refine AW.cond rfl (by simp only [go_sem, reduceIte, reduceCtorEq, Nat.reduceAdd, Nat.reduceMul, Nat.reduceEqDiff, Nat.reduceLT, Nat.reduceLeDiff, Nat.reduceSub, Nat.reducePow, Nat.reduceBEq, Int.reduceToNat, List.reduceReplicate]) ?_ ?_
      · intro hb
        try simp only [hB, decide_eq_true_eq, decide_eq_false_iff_not] at hb
        subst hb
        obtain ⟨hu, hrun⟩ := hc1 rfl
        obtain ⟨fu, rfl⟩ : ∃ f, fu = f + 1 := ⟨fu - 1, by omega⟩
        have hal := eall_iv hRl hRn E (t, false) hEd hF
        unfold erun at hrun
        generalize hU : eall R E (t, false) = U at *
        simp only at hrun
        refine AW.skip ?_
        refine hK17 _ _ _ ?_; clear hK17
        refine AW.block ?_
        refine AW.seq fun K19 hK19 => ?_
        -- region 14
        refine AW.regionK 100 (fun _ => none) [2, 8, 9, 10, 13] [122, 124] ?_
        simp only [go_sem, reduceIte, reduceCtorEq, Nat.reduceAdd, Nat.reduceMul, Nat.reduceEqDiff, Nat.reduceLT, Nat.reduceLeDiff, Nat.reduceSub, Nat.reducePow, Nat.reduceBEq, Int.reduceToNat, List.reduceReplicate, ints_len, bools_len, hRl]
        repeat with_reducible refine cj ?_ ?_
        all_goals try first | omega
        refine hK19 _ _ _ ?_; clear hK19
        refine AW.seq fun K20 hK20 => ?_
        -- region 15
        refine AW.regionK 100 (fun _ => none) [2, 8, 9, 10, 13, 14] [122, 124] ?_
        simp only [go_sem, reduceIte, reduceCtorEq, Nat.reduceAdd, Nat.reduceMul, Nat.reduceEqDiff, Nat.reduceLT, Nat.reduceLeDiff, Nat.reduceSub, Nat.reducePow, Nat.reduceBEq, Int.reduceToNat, List.reduceReplicate, ints_len, bools_len, hRl]
        repeat with_reducible refine cj ?_ ?_
        all_goals try first | omega
        refine hK20 _ _ _ ?_; clear hK20
        refine AW.block ?_
        -- loop 4
        refine AW.loopE (fun mm ee ss kk => ∃ (j g1 v1 g2 v2 : Nat) (u : FSt × Bool), E.length - j = mm ∧ ee = [(2, .rsl 2 (E.map pairV)), (8, .rsl 1 (ints R)), (9, .sl ⟨122, g1, none⟩ 0 n none), (10, .sl ⟨124, g2, none⟩ 0 m none), (13, .bool u.2), (14, .int .i64 (j : Nat))] ∧ ss = [(122, some ⟨g1, v1, 1, bools u.1.1⟩), (124, some ⟨g2, v2, 1, bools u.1.2⟩)] ∧ (j ≤ E.length ∧ FIv n m nb L R u.1 ∧ eall R (E.drop j) u = U)) ?_ ?_
        · refine ⟨_, 0, ?_, ?_, ?_, ?_, (t, false), rfl, ?henv, ?hstore, ?hst⟩
          case henv =>
            repeat' (first | rfl | refine env_cons ?_ ?_ | refine st_cons ?_ ?_ ?_ ?_ | refine int_eq ?_ | refine bool_eq ?_ | refine rsl_eq ?_ | refine osl_eq ?_ | refine sl_eq ?_ ?_ ?_ | refine ptr_eq ?_ ?_ ?_ | refine agg_eq ?_ | refine es_cons ?_ ?_ | refine row_cons ?_ ?_)
            all_goals (first | (simp; done) | omega | (simp; omega))
          case hstore =>
            repeat' (first | rfl | refine env_cons ?_ ?_ | refine st_cons ?_ ?_ ?_ ?_ | refine int_eq ?_ | refine bool_eq ?_ | refine rsl_eq ?_ | refine osl_eq ?_ | refine sl_eq ?_ ?_ ?_ | refine ptr_eq ?_ ?_ ?_ | refine agg_eq ?_ | refine es_cons ?_ ?_ | refine row_cons ?_ ?_)
            all_goals (first | (simp; done) | omega | (simp; omega))
          case hst =>
            exact ⟨by omega, hF, hU⟩
        rintro mm ee ss kk ⟨j, g1, v1, g2, v2, u, rfl, rfl, rfl, hI⟩
        generalize hQl4 : thenQ _ _ = Ql4
        obtain ⟨hj, hFu, hro⟩ := hI
        have hl1 := hFu.h1
        have hl2 := hFu.h2
        refine AW.seq fun K21 hK21 => ?_
        refine AW.seq fun K22 hK22 => ?_
        -- region 16
        refine AW.regionK 100 (fun _ => none) [2, 8, 9, 10, 13, 14, 53] [122, 124] ?_
        simp only [go_sem, reduceIte, reduceCtorEq, Nat.reduceAdd, Nat.reduceMul, Nat.reduceEqDiff, Nat.reduceLT, Nat.reduceLeDiff, Nat.reduceSub, Nat.reducePow, Nat.reduceBEq, Int.reduceToNat, List.reduceReplicate, ints_len, bools_len, hRl]
        repeat with_reducible refine cj ?_ ?_
        all_goals try first | omega
        refine hK22 _ _ _ ?_; clear hK22
        -- cond 5
        refine AW.cond rfl (by simp only [go_sem, reduceIte, reduceCtorEq, Nat.reduceAdd, Nat.reduceMul, Nat.reduceEqDiff, Nat.reduceLT, Nat.reduceLeDiff, Nat.reduceSub, Nat.reducePow, Nat.reduceBEq, Int.reduceToNat, List.reduceReplicate]) ?_ ?_
        · intro hb
          try simp only [hB, decide_eq_true_eq, decide_eq_false_iff_not] at hb
          obtain ⟨e, he⟩ := getI (l := E) (j := j) (by omega)
          have hge := getV (f := pairV) he
          have hei := hEd e (List.mem_of_getElem? he)
          obtain ⟨q1, q2, q3, q4⟩ := edgeIn_iff.1 hei.1
          have hdr : E.drop j = e :: E.drop (j + 1) := by rw [List.drop_eq_getElem_cons (by omega)]; congr 1; exact (List.getElem?_eq_some_iff.1 he).2
          rw [hdr] at hro
          unfold eall at hro
          have hst := (eone_iv hRl hRn hFu hei.1 hei.2).1
          have hg1 := bools_getD (l := u.1.1) (i := e.1.toNat) (by omega)
          have hg2 := bools_getD (l := u.1.2) (i := e.2.toNat) (by omega)
          have hgR := ints_getD (l := R) (i := e.2.toNat) (by omega)
          have hrn := hRn e.2.toNat
          rw [← gi_eq (by omega)] at hrn
          have hu2 := bools_upd u.1.2 e.2.toNat true
          have hu1 := bools_upd u.1.1 (R.getD e.2.toNat 0).toNat true
          have hstd : eone R e u = eone R e u := rfl
          unfold eone at hst hro
          clear hstd
          refine AW.skip ?_
          refine hK21 _ _ _ ?_; clear hK21
          refine AW.seq fun K23 hK23 => ?_
          refine AW.block ?_
          refine AW.seq fun K24 hK24 => ?_
          -- region 18
          refine AW.regionD mixed 100 (fun _ => none) [2, 8, 9, 10, 13, 14, 15, 16] [122, 124] ?_
          simp only [go_sem, reduceIte, reduceCtorEq, Nat.reduceAdd, Nat.reduceMul, Nat.reduceEqDiff, Nat.reduceLT, Nat.reduceLeDiff, Nat.reduceSub, Nat.reducePow, Nat.reduceBEq, Int.reduceToNat, List.reduceReplicate, ints_len, bools_len, hRl, hge, pairV]
          repeat with_reducible refine cj ?_ ?_
          all_goals try first | omega | exact chk (by kernel_rfl)
          refine hK24 _ _ _ ?_; clear hK24
          refine AW.seq fun K25 hK25 => ?_
          refine AW.seq fun K26 hK26 => ?_
          -- region 19
          refine AW.regionK 100 (fun _ => none) [2, 8, 9, 10, 13, 14, 16, 76] [122, 124] ?_
          simp only [go_sem, reduceIte, reduceCtorEq, Nat.reduceAdd, Nat.reduceMul, Nat.reduceEqDiff, Nat.reduceLT, Nat.reduceLeDiff, Nat.reduceSub, Nat.reducePow, Nat.reduceBEq, Int.reduceToNat, List.reduceReplicate, ints_len, bools_len, hRl, hl1, hl2, hg1, hg2]
          repeat with_reducible refine cj ?_ ?_
          all_goals try first | omega | (intros; (repeat' apply And.intro) <;> first | assumption | omega | decide) | (intro hgd; exact absurd hgd (by decide)) | rfl | (simp only [go_sem, reduceIte, reduceCtorEq, Nat.reduceAdd, Nat.reduceMul, Nat.reduceEqDiff, Nat.reduceLT, Nat.reduceLeDiff, Nat.reduceSub, Nat.reducePow, Nat.reduceBEq, Int.reduceToNat, List.reduceReplicate, ints_len, bools_len, hRl, hl1, hl2, hg1, hg2]; done) | (intro _hgd; simp_all [go_sem]; done)
          refine hK26 _ _ _ ?_; clear hK26
          -- cond 6
          refine AW.cond rfl (by simp only [go_sem, reduceIte, reduceCtorEq, Nat.reduceAdd, Nat.reduceMul, Nat.reduceEqDiff, Nat.reduceLT, Nat.reduceLeDiff, Nat.reduceSub, Nat.reducePow, Nat.reduceBEq, Int.reduceToNat, List.reduceReplicate]) ?_ ?_
          · intro hb
            try simp only [hB, decide_eq_true_eq, decide_eq_false_iff_not] at hb
            rw [if_pos (by simpa using hb)] at hst hro
            obtain ⟨w, hw⟩ : ∃ w, w = u := ⟨_, rfl⟩
            refine AW.keep [2, 8, 9, 10, 13, 14] [122, 124] ?_
            try simp only [go_sem, reduceIte, reduceCtorEq, Nat.reduceAdd, Nat.reduceMul, Nat.reduceEqDiff, Nat.reduceLT, Nat.reduceLeDiff, Nat.reduceSub, Nat.reducePow, Nat.reduceBEq, Int.reduceToNat, List.reduceReplicate]
            refine AW.exit ?_
            refine hK23 _ _ _ ?_; clear hK23
            -- region 17
            refine AW.regionK 100 (fun _ => none) [2, 8, 9, 10, 13, 14] [122, 124] ?_
            simp only [go_sem, reduceIte, reduceCtorEq, Nat.reduceAdd, Nat.reduceMul, Nat.reduceEqDiff, Nat.reduceLT, Nat.reduceLeDiff, Nat.reduceSub, Nat.reducePow, Nat.reduceBEq, Int.reduceToNat, List.reduceReplicate, ints_len, bools_len, hRl]
            repeat with_reducible refine cj ?_ ?_
            all_goals try first | omega
            rw [← hQl4]
            change Exists _
            refine ⟨_, ?hm, j + 1, ?_, ?_, ?_, ?_, w, rfl, ?henv, ?hstore, ?hst⟩
            case henv =>
              repeat' (first | rfl | refine env_cons ?_ ?_ | refine st_cons ?_ ?_ ?_ ?_ | refine int_eq ?_ | refine bool_eq ?_ | refine rsl_eq ?_ | refine osl_eq ?_ | refine sl_eq ?_ ?_ ?_ | refine ptr_eq ?_ ?_ ?_ | refine agg_eq ?_ | refine es_cons ?_ ?_ | refine row_cons ?_ ?_)
              all_goals (first | (rw [hw]; done) | (rw [hw]; simp; done) | omega | (simp; done))
            case hstore =>
              repeat' (first | rfl | refine env_cons ?_ ?_ | refine st_cons ?_ ?_ ?_ ?_ | refine int_eq ?_ | refine bool_eq ?_ | refine rsl_eq ?_ | refine osl_eq ?_ | refine sl_eq ?_ ?_ ?_ | refine ptr_eq ?_ ?_ ?_ | refine agg_eq ?_ | refine es_cons ?_ ?_ | refine row_cons ?_ ?_)
              all_goals (rw [hw])
            case hst =>
              rw [← hw] at hst hro
              exact ⟨by omega, hst, hro⟩
            case hm => omega
          · intro hb
            try simp only [hB, decide_eq_true_eq, decide_eq_false_iff_not] at hb
            rw [if_neg (by simpa using hb)] at hst hro
            refine AW.skip ?_
            refine hK25 _ _ _ ?_; clear hK25
            refine AW.seq fun K27 hK27 => ?_
            -- region 20
            refine AW.regionK 100 (fun _ => none) [2, 8, 9, 10, 14, 16] [122, 124] ?_
            simp only [go_sem, reduceIte, reduceCtorEq, Nat.reduceAdd, Nat.reduceMul, Nat.reduceEqDiff, Nat.reduceLT, Nat.reduceLeDiff, Nat.reduceSub, Nat.reducePow, Nat.reduceBEq, Int.reduceToNat, List.reduceReplicate, ints_len, bools_len, hRl, hl2, hu2]
            repeat with_reducible refine cj ?_ ?_
            all_goals try first | omega
            refine hK27 _ _ _ ?_; clear hK27
            refine AW.seq fun K28 hK28 => ?_
            -- region 21
            refine AW.regionK 100 (fun _ => none) [2, 8, 9, 10, 13, 14, 16] [122, 124] ?_
            simp only [go_sem, reduceIte, reduceCtorEq, Nat.reduceAdd, Nat.reduceMul, Nat.reduceEqDiff, Nat.reduceLT, Nat.reduceLeDiff, Nat.reduceSub, Nat.reducePow, Nat.reduceBEq, Int.reduceToNat, List.reduceReplicate, ints_len, bools_len, hRl]
            repeat with_reducible refine cj ?_ ?_
            all_goals try first | omega
            refine hK28 _ _ _ ?_; clear hK28
            refine AW.seq fun K29 hK29 => ?_
            -- region 22
            refine AW.regionK 100 (fun _ => none) [2, 8, 9, 10, 13, 14, 16, 84] [122, 124] ?_
            simp only [go_sem, reduceIte, reduceCtorEq, Nat.reduceAdd, Nat.reduceMul, Nat.reduceEqDiff, Nat.reduceLT, Nat.reduceLeDiff, Nat.reduceSub, Nat.reducePow, Nat.reduceBEq, Int.reduceToNat, List.reduceReplicate, ints_len, bools_len, hRl, hgR]
            repeat with_reducible refine cj ?_ ?_
            all_goals try first | omega
            refine hK29 _ _ _ ?_; clear hK29
            -- cond 7
            refine AW.cond rfl (by simp only [go_sem, reduceIte, reduceCtorEq, Nat.reduceAdd, Nat.reduceMul, Nat.reduceEqDiff, Nat.reduceLT, Nat.reduceLeDiff, Nat.reduceSub, Nat.reducePow, Nat.reduceBEq, Int.reduceToNat, List.reduceReplicate]) ?_ ?_
            · intro hb
              try simp only [hB, decide_eq_true_eq, decide_eq_false_iff_not] at hb
              rw [if_pos hb] at hst hro
              obtain ⟨w, hw⟩ : ∃ w : FSt × Bool, w = ((u.1.1.set (R.getD e.2.toNat 0).toNat true, u.1.2.set e.2.toNat true), true) := ⟨_, rfl⟩
              -- region 23
              refine AW.regionK 100 (fun _ => none) [2, 8, 9, 10, 13, 14] [122, 124] ?_
              simp only [go_sem, reduceIte, reduceCtorEq, Nat.reduceAdd, Nat.reduceMul, Nat.reduceEqDiff, Nat.reduceLT, Nat.reduceLeDiff, Nat.reduceSub, Nat.reducePow, Nat.reduceBEq, Int.reduceToNat, List.reduceReplicate, ints_len, bools_len, hRl, hgR, hl1, hu1]
              repeat with_reducible refine cj ?_ ?_
              all_goals try first | omega
              refine hK23 _ _ _ ?_; clear hK23
              -- region 17
              refine AW.regionK 100 (fun _ => none) [2, 8, 9, 10, 13, 14] [122, 124] ?_
              simp only [go_sem, reduceIte, reduceCtorEq, Nat.reduceAdd, Nat.reduceMul, Nat.reduceEqDiff, Nat.reduceLT, Nat.reduceLeDiff, Nat.reduceSub, Nat.reducePow, Nat.reduceBEq, Int.reduceToNat, List.reduceReplicate, ints_len, bools_len, hRl]
              repeat with_reducible refine cj ?_ ?_
              all_goals try first | omega
              rw [← hQl4]
              change Exists _
              refine ⟨_, ?hm, j + 1, ?_, ?_, ?_, ?_, w, rfl, ?henv, ?hstore, ?hst⟩
              case henv =>
                repeat' (first | rfl | refine env_cons ?_ ?_ | refine st_cons ?_ ?_ ?_ ?_ | refine int_eq ?_ | refine bool_eq ?_ | refine rsl_eq ?_ | refine osl_eq ?_ | refine sl_eq ?_ ?_ ?_ | refine ptr_eq ?_ ?_ ?_ | refine agg_eq ?_ | refine es_cons ?_ ?_ | refine row_cons ?_ ?_)
                all_goals (first | (rw [hw]; done) | (rw [hw]; simp; done) | omega | (simp; done))
              case hstore =>
                repeat' (first | rfl | refine env_cons ?_ ?_ | refine st_cons ?_ ?_ ?_ ?_ | refine int_eq ?_ | refine bool_eq ?_ | refine rsl_eq ?_ | refine osl_eq ?_ | refine sl_eq ?_ ?_ ?_ | refine ptr_eq ?_ ?_ ?_ | refine agg_eq ?_ | refine es_cons ?_ ?_ | refine row_cons ?_ ?_)
                all_goals (rw [hw])
              case hst =>
                rw [← hw] at hst hro
                exact ⟨by omega, hst, hro⟩
              case hm => omega
            · intro hb
              try simp only [hB, decide_eq_true_eq, decide_eq_false_iff_not] at hb
              rw [if_neg (by omega)] at hst hro
              obtain ⟨w, hw⟩ : ∃ w : FSt × Bool, w = ((u.1.1, u.1.2.set e.2.toNat true), true) := ⟨_, rfl⟩
              refine AW.skip ?_
              refine hK23 _ _ _ ?_; clear hK23
              -- region 17
              refine AW.regionK 100 (fun _ => none) [2, 8, 9, 10, 13, 14] [122, 124] ?_
              simp only [go_sem, reduceIte, reduceCtorEq, Nat.reduceAdd, Nat.reduceMul, Nat.reduceEqDiff, Nat.reduceLT, Nat.reduceLeDiff, Nat.reduceSub, Nat.reducePow, Nat.reduceBEq, Int.reduceToNat, List.reduceReplicate, ints_len, bools_len, hRl]
              repeat with_reducible refine cj ?_ ?_
              all_goals try first | omega
              rw [← hQl4]
              change Exists _
              refine ⟨_, ?hm, j + 1, ?_, ?_, ?_, ?_, w, rfl, ?henv, ?hstore, ?hst⟩
              case henv =>
                repeat' (first | rfl | refine env_cons ?_ ?_ | refine st_cons ?_ ?_ ?_ ?_ | refine int_eq ?_ | refine bool_eq ?_ | refine rsl_eq ?_ | refine osl_eq ?_ | refine sl_eq ?_ ?_ ?_ | refine ptr_eq ?_ ?_ ?_ | refine agg_eq ?_ | refine es_cons ?_ ?_ | refine row_cons ?_ ?_)
                all_goals (first | (rw [hw]; done) | (rw [hw]; simp; done) | omega | (simp; done))
              case hstore =>
                repeat' (first | rfl | refine env_cons ?_ ?_ | refine st_cons ?_ ?_ ?_ ?_ | refine int_eq ?_ | refine bool_eq ?_ | refine rsl_eq ?_ | refine osl_eq ?_ | refine sl_eq ?_ ?_ ?_ | refine ptr_eq ?_ ?_ ?_ | refine agg_eq ?_ | refine es_cons ?_ ?_ | refine row_cons ?_ ?_)
                all_goals (rw [hw])
              case hst =>
                rw [← hw] at hst hro
                exact ⟨by omega, hst, hro⟩
              case hm => omega
        · intro hb
          try simp only [hB, decide_eq_true_eq, decide_eq_false_iff_not] at hb
          have hj2 : j = E.length := by omega
          rw [hj2, List.drop_length] at hro
          unfold eall at hro
          subst hro
          obtain ⟨b1, b2, b3, b4⟩ := hal
          refine AW.keep [2, 8, 9, 10, 13] [122, 124] ?_
          try simp only [go_sem, reduceIte, reduceCtorEq, Nat.reduceAdd, Nat.reduceMul, Nat.reduceEqDiff, Nat.reduceLT, Nat.reduceLeDiff, Nat.reduceSub, Nat.reducePow, Nat.reduceBEq, Int.reduceToNat, List.reduceReplicate]
          refine AW.exit ?_
          rw [← hQl4]
          rw [← hQl3]
          change Exists _
          refine ⟨_, ?hm, fu, ?_, ?_, ?_, ?_, u.2, u.1, rfl, ?henv, ?hstore, ?hst⟩
          case henv =>
            repeat' (first | rfl | refine env_cons ?_ ?_ | refine st_cons ?_ ?_ ?_ ?_ | refine int_eq ?_ | refine bool_eq ?_ | refine rsl_eq ?_ | refine osl_eq ?_ | refine sl_eq ?_ ?_ ?_ | refine ptr_eq ?_ ?_ ?_ | refine agg_eq ?_ | refine es_cons ?_ ?_ | refine row_cons ?_ ?_)
            all_goals (first | (simp; done) | omega | (simp; omega))
          case hstore =>
            repeat' (first | rfl | refine env_cons ?_ ?_ | refine st_cons ?_ ?_ ?_ ?_ | refine int_eq ?_ | refine bool_eq ?_ | refine rsl_eq ?_ | refine osl_eq ?_ | refine sl_eq ?_ ?_ ?_ | refine ptr_eq ?_ ?_ ?_ | refine agg_eq ?_ | refine es_cons ?_ ?_ | refine row_cons ?_ ?_)
            all_goals (first | (simp; done) | omega | (simp; omega))
          case hst =>
            refine ⟨b1, fun hc => ?_, fun hc => ?_⟩
            · rw [if_pos hc] at hrun
              rcases b4 with ⟨b4, b5⟩ | ⟨b4, b5⟩
              · rw [b4] at hc; cases hc
              · exact ⟨by simp only at b5; omega, hrun⟩
            · rw [if_neg (by rw [hc]; simp)] at hrun
              exact hrun
          case hm => cases hcu : u.2 <;> simp
      · intro hb
        try simp only [hB, decide_eq_true_eq, decide_eq_false_iff_not] at hb
        have hTt := hc2 hb
        subst hTt
        have htk1 : (bools t.1).take n = bools t.1 := List.take_of_length_le (by rw [bools_len, hF.h1]; exact Nat.le_refl _)
        have htk2 : (bools t.2).take m = bools t.2 := List.take_of_length_le (by rw [bools_len, hF.h2]; exact Nat.le_refl _)
        refine AW.keep [9, 10] [122, 124] ?_
        try simp only [go_sem, reduceIte, reduceCtorEq, Nat.reduceAdd, Nat.reduceMul, Nat.reduceEqDiff, Nat.reduceLT, Nat.reduceLeDiff, Nat.reduceSub, Nat.reducePow, Nat.reduceBEq, Int.reduceToNat, List.reduceReplicate]
        refine AW.exit ?_
        rw [← hQl3]
        refine hK15 _ _ _ ?_; clear hK15
        refine AW.seq fun K30 hK30 => ?_
        -- region 24
        refine AW.regionK 100 (fun _ => none) [6, 7] [122, 124] ?_
        simp only [go_sem, reduceIte, reduceCtorEq, Nat.reduceAdd, Nat.reduceMul, Nat.reduceEqDiff, Nat.reduceLT, Nat.reduceLeDiff, Nat.reduceSub, Nat.reducePow, Nat.reduceBEq, Int.reduceToNat, List.reduceReplicate, ints_len, bools_len, hRl]
        repeat with_reducible refine cj ?_ ?_
        all_goals try first | omega
        refine hK30 _ _ _ ?_; clear hK30
        refine AW.ret ?_
        rw [← hQr]
        simp only [go_sem, reduceIte, reduceCtorEq, Nat.reduceAdd, Nat.reduceMul, Nat.reduceEqDiff, Nat.reduceLT, Nat.reduceLeDiff, Nat.reduceSub, Nat.reducePow, Nat.reduceBEq, Int.reduceToNat, List.reduceReplicate, ints_len, bools_len, hRl]
        refine ⟨[(122, 0, true), (124, 1, true)], ?_⟩
        simp only [go_sem, reduceIte, Nat.reduceEqDiff, renC_bools]
        first | rfl | exact ⟨rfl, rfl⟩
end Go.Proofs.M

namespace Go.Proofs.M
open Go.AM Go
set_option maxRecDepth 100000
set_option maxHeartbeats 2000000
def negF (b : List Bool) (j : Nat) : List Bool := (b.take j).map (!·) ++ b.drop j
theorem negF_len (b : List Bool) (j : Nat) : (negF b j).length = b.length := by simp [negF]; omega
theorem negF_get {b : List Bool} {j : Nat} (h : j < b.length) : (negF b j).getD j false = b.getD j false := by
  unfold negF
  rw [List.getD_eq_getElem?_getD, List.getElem?_append_right (by simp; omega)]
  simp only [List.length_map, List.length_take, List.getElem?_drop, List.getD_eq_getElem?_getD]
  congr 2; omega
theorem negF_succ {b : List Bool} {j : Nat} (h : j < b.length) : (negF b j).set j (!b.getD j false) = negF b (j + 1) := by
  unfold negF
  rw [List.set_append_right _ _ (by simp; omega)]
  have e0 : j - (List.map (fun x => !x) (List.take j b)).length = 0 := by simp; omega
  have e1 : b.getD j false = b[j] := by rw [List.getD_eq_getElem?_getD, List.getElem?_eq_getElem h]; rfl
  rw [e0, e1, List.drop_eq_getElem_cons h, List.set_cons_zero, List.take_add_one, List.getElem?_eq_getElem h, Option.toList_some, List.map_append, List.append_assoc]
  rfl
theorem negF_all (b : List Bool) : negF b b.length = b.map (!·) := by simp [negF]
theorem rcover_r {n m : Nat} {E : List (Int × Int)} (h : Gd n m E) : Reads Try.prog 16 false [.int .i64 n, .int .i64 m, .rsl 2 (E.map pairV)] (.tup [.agg [.int .i64 n, .rsl 1 (words (setW ((refM n m E).1.map (!·)) n))], .agg [.int .i64 m, .rsl 1 (words (setW (refM n m E).2 m))]]) := by
  have hn := h.hn
  have hm := h.hm
  have hre := rreached_u h
  have hl1 := h.ref.1
  have hl2 := h.ref.2.1
  generalize refM n m E = T at *
  obtain ⟨A, B⟩ := T
  simp only at hl1 hl2 hre ⊢
  have hs1 := rset_r (A.map (!·)) (by simp; omega)
  have hs2 := rset_r B (by omega)
  have hl3 : (A.map (!·)).length = n := by simp [hl1]
  rw [hl3] at hs1
  rw [hl2] at hs2
  have htA : (bools (A.map (!·))).take n = bools (A.map (!·)) := List.take_of_length_le (by rw [bools_len]; omega)
  have htB : (bools B).take m = bools B := List.take_of_length_le (by rw [bools_len]; omega)
  refine Reads.body (rs := [.cell 6 30, .cell 7 30]) Try.func16 rfl Try.ntmps16 rfl (by simp) ?_
  generalize hQr : retQ _ _ _ = Qr
  refine AW.seq fun K1 hK1 => ?_
  -- region 0
  refine AW.regionK 0 (fun _ => none) [0, 1, 2, 6, 7] [6, 7, 15, 1015] ?_
  simp only [go_sem, reduceIte, reduceCtorEq, Nat.reduceAdd, Nat.reduceMul, Nat.reduceEqDiff, Nat.reduceLT, Nat.reduceLeDiff, Nat.reduceSub, Nat.reducePow, Nat.reduceBEq, Int.reduceToNat, List.reduceReplicate, bools_len]
  repeat with_reducible refine cj ?_ ?_
  all_goals try first | omega
  refine hK1 _ _ _ ?_; clear hK1
  refine AW.seq fun K2 hK2 => ?_
  -- region 1
  refine AW.regionK 0 (fun ii => if ii = 3 then some (.upd [] (fun k => [(0, some ⟨k, k, 1, bools A⟩), (1, some ⟨k, k, 1, bools B⟩)]) (fun k => .tup [.sl ⟨0, k, none⟩ 0 n none, .sl ⟨1, k, none⟩ 0 m none])) else none) [0, 6, 7, 8, 9] [6, 7, 15, 1015] ?_
  simp only [go_sem, reduceIte, reduceCtorEq, Nat.reduceAdd, Nat.reduceMul, Nat.reduceEqDiff, Nat.reduceLT, Nat.reduceLeDiff, Nat.reduceSub, Nat.reducePow, Nat.reduceBEq, Int.reduceToNat, List.reduceReplicate, bools_len]
  repeat with_reducible refine cj ?_ ?_
  all_goals try first | (exact hre) | omega | exact ent (by kernel_rfl)
  refine hK2 _ _ _ ?_; clear hK2
  refine AW.seq fun K3 hK3 => ?_
  refine AW.seq fun K4 hK4 => ?_
  -- region 2
  refine AW.regionK 0 (fun _ => none) [0, 6, 7, 8, 9, 10] [6, 7, 15, 1015] ?_
  simp only [go_sem, reduceIte, reduceCtorEq, Nat.reduceAdd, Nat.reduceMul, Nat.reduceEqDiff, Nat.reduceLT, Nat.reduceLeDiff, Nat.reduceSub, Nat.reducePow, Nat.reduceBEq, Int.reduceToNat, List.reduceReplicate, bools_len]
  repeat with_reducible refine cj ?_ ?_
  all_goals try first | omega
  refine hK4 _ _ _ ?_; clear hK4
  refine AW.block ?_
  -- loop 1
  refine AW.loopE (fun mm ee ss kk => ∃ (j g6 v6 g7 v7 g1 v1 g2 v2 : Nat), n - j = mm ∧ ee = [(0, .int .i64 n), (6, .ptr ⟨6, g6, none⟩ 0 0), (7, .ptr ⟨7, g7, none⟩ 0 0), (8, .sl ⟨15, g1, none⟩ 0 n none), (9, .sl ⟨1015, g2, none⟩ 0 m none), (10, .int .i64 (j : Nat))] ∧ ss = [(6, some ⟨g6, v6, 2, [[.int .i64 0, .nilsl]]⟩), (7, some ⟨g7, v7, 2, [[.int .i64 0, .nilsl]]⟩), (15, some ⟨g1, v1, 1, bools (negF A j)⟩), (1015, some ⟨g2, v2, 1, bools B⟩)] ∧ (j ≤ n)) ?_ ?_
  · refine ⟨_, 0, ?_, ?_, ?_, ?_, ?_, ?_, ?_, ?_, rfl, ?henv, ?hstore, ?hst⟩
    case henv =>
      repeat' (first | rfl | refine env_cons ?_ ?_ | refine st_cons ?_ ?_ ?_ ?_ | refine int_eq ?_ | refine bool_eq ?_ | refine rsl_eq ?_ | refine osl_eq ?_ | refine sl_eq ?_ ?_ ?_ | refine ptr_eq ?_ ?_ ?_ | refine agg_eq ?_ | refine es_cons ?_ ?_ | refine row_cons ?_ ?_)
      all_goals (first | (simp; done) | omega | (simp; omega))
    case hstore =>
      repeat' (first | rfl | refine env_cons ?_ ?_ | refine st_cons ?_ ?_ ?_ ?_ | refine int_eq ?_ | refine bool_eq ?_ | refine rsl_eq ?_ | refine osl_eq ?_ | refine sl_eq ?_ ?_ ?_ | refine ptr_eq ?_ ?_ ?_ | refine agg_eq ?_ | refine es_cons ?_ ?_ | refine row_cons ?_ ?_)
      all_goals simp [negF]
    case hst =>
      first | trivial | omega | (simp; done) | (simp; omega)
  rintro mm ee ss kk ⟨j, g6, v6, g7, v7, g1, v1, g2, v2, rfl, rfl, rfl, hI⟩
  generalize hQl1 : thenQ _ _ = Ql1
  refine AW.seq fun K5 hK5 => ?_
  refine AW.seq fun K6 hK6 => ?_
  -- region 3
  refine AW.regionK 0 (fun _ => none) [0, 6, 7, 8, 9, 10, 20] [6, 7, 15, 1015] ?_
  simp only [go_sem, reduceIte, reduceCtorEq, Nat.reduceAdd, Nat.reduceMul, Nat.reduceEqDiff, Nat.reduceLT, Nat.reduceLeDiff, Nat.reduceSub, Nat.reducePow, Nat.reduceBEq, Int.reduceToNat, List.reduceReplicate, bools_len]
  repeat with_reducible refine cj ?_ ?_
  all_goals try first | omega
  refine hK6 _ _ _ ?_; clear hK6
  -- cond 1
  refine AW.cond rfl (by simp only [go_sem, reduceIte, reduceCtorEq, Nat.reduceAdd, Nat.reduceMul, Nat.reduceEqDiff, Nat.reduceLT, Nat.reduceLeDiff, Nat.reduceSub, Nat.reducePow, Nat.reduceBEq, Int.reduceToNat, List.reduceReplicate]) ?_ ?_
  · intro hb
    try simp only [hB, decide_eq_true_eq, decide_eq_false_iff_not] at hb
    have hnl := negF_len A j
    have hg := bools_getD (l := negF A j) (i := j) (by omega)
    rw [negF_get (b := A) (j := j) (by omega)] at hg
    have hus := negF_succ (b := A) (j := j) (by omega)
    refine AW.skip ?_
    refine hK5 _ _ _ ?_; clear hK5
    refine AW.seq fun K7 hK7 => ?_
    refine AW.block ?_
    -- region 5
    refine AW.regionK 0 (fun _ => none) [0, 6, 7, 8, 9, 10] [6, 7, 15, 1015] ?_
    simp only [go_sem, reduceIte, reduceCtorEq, Nat.reduceAdd, Nat.reduceMul, Nat.reduceEqDiff, Nat.reduceLT, Nat.reduceLeDiff, Nat.reduceSub, Nat.reducePow, Nat.reduceBEq, Int.reduceToNat, List.reduceReplicate, bools_len, hnl, hl1, hg, bools_set, hus]
    repeat with_reducible refine cj ?_ ?_
    all_goals try first | omega
    refine hK7 _ _ _ ?_; clear hK7
    -- region 4
    refine AW.regionK 0 (fun _ => none) [0, 6, 7, 8, 9, 10] [6, 7, 15, 1015] ?_
    simp only [go_sem, reduceIte, reduceCtorEq, Nat.reduceAdd, Nat.reduceMul, Nat.reduceEqDiff, Nat.reduceLT, Nat.reduceLeDiff, Nat.reduceSub, Nat.reducePow, Nat.reduceBEq, Int.reduceToNat, List.reduceReplicate, bools_len]
    repeat with_reducible refine cj ?_ ?_
    all_goals try first | omega
    rw [← hQl1]
    change Exists _
    refine ⟨_, ?hm, j + 1, ?_, ?_, ?_, ?_, ?_, ?_, ?_, ?_, rfl, ?henv, ?hstore, ?hst⟩
    case henv =>
      repeat' (first | rfl | refine env_cons ?_ ?_ | refine st_cons ?_ ?_ ?_ ?_ | refine int_eq ?_ | refine bool_eq ?_ | refine rsl_eq ?_ | refine osl_eq ?_ | refine sl_eq ?_ ?_ ?_ | refine ptr_eq ?_ ?_ ?_ | refine agg_eq ?_ | refine es_cons ?_ ?_ | refine row_cons ?_ ?_)
      all_goals (first | (simp; done) | omega | (simp; omega))
    case hstore =>
      repeat' (first | rfl | refine env_cons ?_ ?_ | refine st_cons ?_ ?_ ?_ ?_ | refine int_eq ?_ | refine bool_eq ?_ | refine rsl_eq ?_ | refine osl_eq ?_ | refine sl_eq ?_ ?_ ?_ | refine ptr_eq ?_ ?_ ?_ | refine agg_eq ?_ | refine es_cons ?_ ?_ | refine row_cons ?_ ?_)
      all_goals (first | (simp; done) | omega | (simp; omega))
    case hst =>
      first | trivial | omega | (simp; done) | (simp; omega)
    case hm => omega
  · intro hb
    try simp only [hB, decide_eq_true_eq, decide_eq_false_iff_not] at hb
    have hj : A.length = j := by omega
    subst hj
    rw [negF_all]
    subst hl1
    refine AW.keep [6, 7, 8, 9] [6, 7, 15, 1015] ?_
    try simp only [go_sem, reduceIte, reduceCtorEq, Nat.reduceAdd, Nat.reduceMul, Nat.reduceEqDiff, Nat.reduceLT, Nat.reduceLeDiff, Nat.reduceSub, Nat.reducePow, Nat.reduceBEq, Int.reduceToNat, List.reduceReplicate]
    refine AW.exit ?_
    rw [← hQl1]
    refine hK3 _ _ _ ?_; clear hK3
    refine AW.seq fun K8 hK8 => ?_
    -- region 6
    refine AW.regionK 0 (fun ii => if ii = 1 then some (.upd [15] (fun _ => []) (fun _ => .agg [.int .i64 A.length, .rsl 1 (words (setW (A.map (!·)) A.length))])) else if ii = 3 then some (.upd [1015] (fun _ => []) (fun _ => .agg [.int .i64 m, .rsl 1 (words (setW B m))])) else none) [6, 7] [6, 7, 15, 1015] ?_
    simp only [go_sem, reduceIte, reduceCtorEq, Nat.reduceAdd, Nat.reduceMul, Nat.reduceEqDiff, Nat.reduceLT, Nat.reduceLeDiff, Nat.reduceSub, Nat.reducePow, Nat.reduceBEq, Int.reduceToNat, List.reduceReplicate, bools_len]
    repeat with_reducible refine cj ?_ ?_
    all_goals try first | (first | exact hs1.upd (by simp only [List.map_cons, List.map_nil, go_sem, reduceIte, Nat.reduceEqDiff, htA, vwc_bools]) | exact hs2.upd (by simp only [List.map_cons, List.map_nil, go_sem, reduceIte, Nat.reduceEqDiff, htB, vwc_bools])) | omega | exact ent (by kernel_rfl)
    refine hK8 _ _ _ ?_; clear hK8
    refine AW.ret ?_
    rw [← hQr]
    simp only [go_sem, reduceIte, reduceCtorEq, Nat.reduceAdd, Nat.reduceMul, Nat.reduceEqDiff, Nat.reduceLT, Nat.reduceLeDiff, Nat.reduceSub, Nat.reducePow, Nat.reduceBEq, Int.reduceToNat, List.reduceReplicate, bools_len]
    exact Wk.refl _
end Go.Proofs.M

/- Matchings, covers, and deficiencies. -/
namespace Go.AM
theorem nodup_sub {α : Type} [DecidableEq α] : ∀ {l l' : List α}, l.Nodup → (∀ x ∈ l, x ∈ l') → l.length ≤ l'.length
  | [], _, _, _ => Nat.zero_le _
  | a :: l, l', h, hs => by
    have ha := hs a (by simp)
    obtain ⟨h1, h2⟩ := List.nodup_cons.1 h
    have := nodup_sub (l := l) (l' := l'.erase a) h2 fun x hx => by
      have hne : x ≠ a := fun e => h1 (by rw [← e]; exact hx)
      exact (List.mem_erase_of_ne hne).2 (hs x (by simp [hx]))
    rw [List.length_erase_of_mem ha] at this
    have := List.length_pos_of_mem ha
    simp only [List.length_cons]; omega
def cnt (p : Nat → Bool) (n : Nat) : Nat := ((List.range n).filter p).length
theorem cnt_succ (p : Nat → Bool) (n : Nat) : cnt p (n + 1) = cnt p n + if p n = true then 1 else 0 := by
  unfold cnt
  rw [List.range_succ, List.filter_append, List.length_append]
  by_cases h : p n = true <;> simp [h]
theorem cnt_inj {p q : Nat → Bool} {n m : Nat} (f : Nat → Nat) (h1 : ∀ i, i < n → p i = true → f i < m ∧ q (f i) = true) (h2 : ∀ i j, i < n → j < n → p i = true → p j = true → f i = f j → i = j) : cnt p n ≤ cnt q m := by
  have := nodup_sub (l := ((List.range n).filter p).map f) (l' := (List.range m).filter q) ?_ ?_
  · rw [List.length_map] at this; exact this
  · refine List.pairwise_map.2 (List.Pairwise.imp_of_mem ?_ (List.Pairwise.sublist List.filter_sublist (List.nodup_range (n := n))))
    intro a b ha hb hab e
    simp only [List.mem_filter, List.mem_range] at ha hb
    exact hab (h2 a b ha.1 hb.1 ha.2 hb.2 e)
  · intro x hx
    obtain ⟨i, hi, rfl⟩ := List.mem_map.1 hx
    simp only [List.mem_filter, List.mem_range] at hi ⊢
    exact h1 i hi.1 hi.2
theorem cnt_mono {p q : Nat → Bool} {n : Nat} (h : ∀ i, i < n → p i = true → q i = true) : cnt p n ≤ cnt q n := cnt_inj (fun i => i) (fun i hi hp => ⟨hi, h i hi hp⟩) fun _ _ _ _ _ _ e => e
theorem cnt_congr {p q : Nat → Bool} {n : Nat} (h : ∀ i, i < n → p i = q i) : cnt p n = cnt q n := Nat.le_antisymm (cnt_mono fun i hi hp => by rw [← h i hi]; exact hp) (cnt_mono fun i hi hp => by rw [h i hi]; exact hp)
theorem cnt_split (p q : Nat → Bool) : ∀ n, cnt p n = cnt (fun i => p i && q i) n + cnt (fun i => p i && !q i) n
  | 0 => rfl
  | n + 1 => by
    rw [cnt_succ, cnt_succ, cnt_succ, cnt_split p q n]
    cases p n <;> cases q n <;> simp <;> omega
theorem cnt_all {p q : Nat → Bool} : ∀ {n : Nat}, (∀ i, i < n → p i = true → q i = true) → cnt q n ≤ cnt p n → ∀ i, i < n → q i = true → p i = true
  | 0, _, _, i, hi, _ => by omega
  | n + 1, h, hc, i, hi, hq => by
    have h1 := cnt_mono (n := n) fun i hi => h i (by omega)
    rw [cnt_succ, cnt_succ] at hc
    have hn := h n (by omega)
    by_cases e : i = n
    · subst e
      cases hp : p i with
      | true => rfl
      | false => rw [hp, hq] at hc; simp at hc; omega
    · refine cnt_all (n := n) (fun i hi => h i (by omega)) ?_ i (by omega) hq
      cases hp : p n <;> cases hqn : q n <;> simp [hp, hqn] at hc hn ⊢ <;> omega
section
variable {n m : Nat} {E : List (Int × Int)} {L R : List Int}
abbrev pL (L : List Int) (i : Nat) : Bool := decide (0 ≤ gi L i)
theorem prsL_mem (hL : L.length = n) (p : Int × Int) : p ∈ prsL L n ↔ ∃ i : Nat, i < n ∧ 0 ≤ gi L i ∧ p = ((i : Int), gi L i) := by
  simp only [prsL, List.mem_map, List.mem_filter, List.mem_range, decide_eq_true_eq]
  constructor
  · rintro ⟨i, ⟨h1, h2⟩, rfl⟩
    rw [gi_eq (by omega)] at h2 ⊢
    exact ⟨i, h1, h2, rfl⟩
  · rintro ⟨i, h1, h2, rfl⟩
    exact ⟨i, ⟨h1, by rw [gi_eq (by omega)]; exact h2⟩, by rw [gi_eq (by omega)]⟩
theorem prsL_len (hL : L.length = n) : (prsL L n).length = cnt (pL L) n := by
  unfold prsL
  rw [List.length_map]
  exact cnt_congr fun i hi => by rw [gi_eq (by omega)]
theorem isMat_iff {E P : List (Int × Int)} : isMat E P = true ↔ (∀ p ∈ P, p ∈ E) ∧ (P.map (·.1)).Nodup ∧ (P.map (·.2)).Nodup := by
  simp [isMat]
theorem mch_mat (hM : Mch n m (nbOf n E) L R) (hE : ∀ e ∈ E, edgeIn n m e = true) : isMat E (prsL L n) = true := by
  rw [isMat_iff]
  refine ⟨fun p hp => ?_, ?_, ?_⟩
  · obtain ⟨i, h1, h2, rfl⟩ := (prsL_mem hM.hL p).1 hp
    exact (nbOf_mem hE i _).1 (hM.hE i h2)
  · unfold prsL
    rw [List.map_map]
    refine List.pairwise_map.2 (List.Pairwise.imp_of_mem ?_ (List.Pairwise.sublist List.filter_sublist (List.nodup_range (n := n))))
    intro a b _ _ hab e
    simp only [Function.comp] at e
    omega
  · unfold prsL
    rw [List.map_map]
    refine List.pairwise_map.2 (List.Pairwise.imp_of_mem ?_ (List.Pairwise.sublist List.filter_sublist (List.nodup_range (n := n))))
    intro a b ha hb hab e
    have hLl := hM.hL
    simp only [List.mem_filter, List.mem_range, decide_eq_true_eq] at ha hb
    simp only [Function.comp] at e
    rw [gi_eq (by omega)] at e ha hb
    rw [gi_eq (by omega)] at e
    have h1 := (hM.hC a (gi L a).toNat).1 (by omega)
    have h2 := (hM.hC b (gi L a).toNat).1 (by omega)
    omega
theorem mch_cnt (hM : Mch n m (nbOf n E) L R) : cnt (pL L) n = cnt (pL R) m := by
  refine Nat.le_antisymm (cnt_inj (fun i => (gi L i).toNat) (fun i hi hp => ?_) fun i j hi hj hp hq e => ?_) (cnt_inj (fun r => (gi R r).toNat) (fun r hr hp => ?_) fun i j hi hj hp hq e => ?_)
  · simp only [pL, decide_eq_true_eq] at hp ⊢
    have h1 := hM.hLm i
    have := (hM.hC i (gi L i).toNat).1 (by omega)
    omega
  · simp only [pL, decide_eq_true_eq] at hp hq
    have h1 := (hM.hC i (gi L i).toNat).1 (by omega)
    have h2 := (hM.hC j (gi L i).toNat).1 (by omega)
    omega
  · simp only [pL, decide_eq_true_eq] at hp ⊢
    have h1 := hM.hRn r
    have := (hM.hC (gi R r).toNat r).2 (by omega)
    omega
  · simp only [pL, decide_eq_true_eq] at hp hq
    have h1 := (hM.hC (gi R i).toNat i).2 (by omega)
    have h2 := (hM.hC (gi R i).toNat j).2 (by omega)
    omega
theorem NoAug.sub {nb : List (List Int)} (h : NoAug nb n L R) : ∀ r, RR nb n L R r → 0 ≤ gi R r := by
  obtain ⟨T, hT, hf⟩ := h
  have hl : ∀ l, RL nb n L R l → ∀ r ∈ nbl nb l, T r.toNat := by
    intro l hl
    induction hl with
    | free a b => exact hf _ a b
    | step a b c ih =>
      have h1 := (hT _ (ih _ b)).2
      rw [c, Int.toNat_natCast] at h1
      exact h1
  rintro r ⟨l, h1, h2⟩
  have := hT _ (hl l h1 _ h2)
  rw [Int.toNat_natCast] at this
  exact this.1
structure Rch (n m : Nat) (E : List (Int × Int)) (L R : List Int) (S T : Nat → Bool) : Prop where
  hM : Mch n m (nbOf n E) L R
  hA : NoAug (nbOf n E) n L R
  hE : ∀ e ∈ E, edgeIn n m e = true
  hS : ∀ i, S i = true ↔ RL (nbOf n E) n L R i
  hT : ∀ r, T r = true ↔ RR (nbOf n E) n L R r
variable {S T : Nat → Bool}
theorem Rch.mate (h : Rch n m E L R S T) {r : Nat} (hr : T r = true) : 0 ≤ gi R r ∧ S (gi R r).toNat = true := by
  have h1 := (h.hT r).1 hr
  have h2 := h.hA.sub r h1
  obtain ⟨l, a, b⟩ := h1
  exact ⟨h2, (h.hS _).2 (.step a b (by rw [Int.toNat_natCast]; omega))⟩
theorem Rch.free (h : Rch n m E L R S T) {i : Nat} (hi : i < n) (hs : gi L i < 0) : S i = true := (h.hS i).2 (.free hi hs)
theorem Rch.to (h : Rch n m E L R S T) {i : Nat} (hs : S i = true) (hp : 0 ≤ gi L i) : T (gi L i).toNat = true :=
  (h.hT _).2 ⟨i, (h.hS i).1 hs, by rw [Int.toNat_of_nonneg hp]; exact h.hM.hE i hp⟩
theorem Rch.cntT (h : Rch n m E L R S T) : cnt (fun i => pL L i && S i) n = cnt T m := by
  have hM := h.hM
  refine Nat.le_antisymm (cnt_inj (fun i => (gi L i).toNat) (fun i hi hp => ?_) fun i j hi hj hp hq e => ?_) (cnt_inj (fun r => (gi R r).toNat) (fun r hr hp => ?_) fun i j hi hj hp hq e => ?_)
  · simp only [pL, Bool.and_eq_true, decide_eq_true_eq] at hp
    have h1 := hM.hLm i
    exact ⟨by omega, h.to hp.2 hp.1⟩
  · simp only [pL, Bool.and_eq_true, decide_eq_true_eq] at hp hq
    have h1 := (hM.hC i (gi L i).toNat).1 (by omega)
    have h2 := (hM.hC j (gi L i).toNat).1 (by omega)
    omega
  · have h2 := h.mate hp
    have h1 := hM.hRn r
    have := (hM.hC (gi R r).toNat r).2 (by omega)
    simp only [pL, Bool.and_eq_true, decide_eq_true_eq]
    exact ⟨by omega, by omega, h2.2⟩
  · have h3 := h.mate hp
    have h4 := h.mate hq
    have h1 := (hM.hC (gi R i).toNat i).2 (by omega)
    have h2 := (hM.hC (gi R i).toNat j).2 (by omega)
    omega
theorem Rch.cntS (h : Rch n m E L R S T) : cnt (fun i => pL L i && !S i) n = cnt (fun i => !S i) n :=
  cnt_congr fun i hi => by
    cases hs : S i with
    | true => simp
    | false =>
      by_cases hp : 0 ≤ gi L i
      · simp [hp]
      · have := h.free hi (by omega); rw [hs] at this; cases this
theorem Rch.cover (h : Rch n m E L R S T) : cnt (fun i => !S i) n + cnt T m = cnt (pL L) n := by
  rw [cnt_split (pL L) S n, h.cntT, h.cntS]; omega
/-- A minimum cover has the right part of the nearest one. -/
theorem Rch.least (h : Rch n m E L R S T) {A B : Nat → Bool} (hc : ∀ e ∈ E, A e.1.toNat = true ∨ B e.2.toNat = true) (hk : cnt A n + cnt B m ≤ cnt (pL L) n) {r : Nat} (hr : T r = true) : B r = true := by
  have hM := h.hM
  have e1 := cnt_split (pL L) A n
  have e2 : cnt (fun i => pL L i && A i) n ≤ cnt A n := cnt_mono fun i _ hp => by simp at hp; exact hp.2
  have e3 : cnt (fun i => pL L i && !A i) n ≤ cnt (fun r => B r && (pL R r && !A (gi R r).toNat)) m := cnt_inj (fun i => (gi L i).toNat) (fun i hi hp => by
    simp only [pL, Bool.and_eq_true, decide_eq_true_eq] at hp
    have h1 := hM.hLm i
    have h2 := (hM.hC i (gi L i).toNat).1 (by omega)
    refine ⟨by omega, ?_⟩
    have he : (((i : Nat) : Int), gi L i) ∈ E := (nbOf_mem h.hE i _).1 (hM.hE i hp.1)
    simp only [pL, Bool.and_eq_true, decide_eq_true_eq, h2, Int.toNat_natCast]
    refine ⟨?_, by omega, hp.2⟩
    rcases hc _ he with h3 | h3
    · simp only [Int.toNat_natCast] at h3
      rw [h3] at hp; simp at hp
    · exact h3) fun i j hi hj hp hq e => by
    simp only [pL, Bool.and_eq_true, decide_eq_true_eq] at hp hq
    have h1 := (hM.hC i (gi L i).toNat).1 (by omega)
    have h2 := (hM.hC j (gi L i).toNat).1 (by omega)
    omega
  have e4 : cnt (fun r => B r && (pL R r && !A (gi R r).toNat)) m ≤ cnt B m := cnt_mono fun i _ hp => by
    simp only [Bool.and_eq_true] at hp; exact hp.1
  have f1 := cnt_all (p := fun i => pL L i && A i) (q := A) (n := n) (fun i _ hp => by simp at hp; exact hp.2) (by omega)
  have f2 := cnt_all (p := fun r => B r && (pL R r && !A (gi R r).toNat)) (q := B) (n := m) (fun i _ hp => by simp only [Bool.and_eq_true] at hp; exact hp.1) (by omega)
  have hl : ∀ l, RL (nbOf n E) n L R l → A l = false := by
    intro l hl
    induction hl with
    | @free l a b =>
      cases hA : A l with
      | false => rfl
      | true => have := f1 l a hA; simp [pL] at this; omega
    | @step l r l2 a b c ih =>
      have he := (nbOf_mem h.hE l r).1 b
      have hr := edgeIn_iff.1 (h.hE _ he)
      simp only at hr
      rcases hc _ he with h3 | h3
      · simp only [Int.toNat_natCast] at h3
        rw [h3] at ih; cases ih
      · have := f2 r.toNat (by omega) h3
        simp only [Bool.and_eq_true, Bool.not_eq_true', c, Int.toNat_natCast] at this
        exact this.2.2
  obtain ⟨l, a, b⟩ := (h.hT r).1 hr
  have he := (nbOf_mem h.hE l r).1 b
  rcases hc _ he with h3 | h3
  · simp only [Int.toNat_natCast] at h3
    rw [hl l a] at h3; cases h3
  · simpa using h3
/-- The neighbors of a set. -/
def nbX (E : List (Int × Int)) (X : Nat → Bool) (r : Nat) : Bool := E.any fun e => X e.1.toNat && decide (e.2 = (r : Int))
theorem nbX_iff {X : Nat → Bool} {r : Nat} : nbX E X r = true ↔ ∃ e ∈ E, X e.1.toNat = true ∧ e.2 = (r : Int) := by
  simp [nbX]
theorem Rch.hall (h : Rch n m E L R S T) (X : Nat → Bool) : cnt X n ≤ cnt (nbX E X) m + cnt (fun i => !pL L i) n ∧
    (cnt (nbX E X) m + cnt (fun i => !pL L i) n ≤ cnt X n → ∀ i, S i = true → X i = true) := by
  have hM := h.hM
  have e1 := cnt_split X (pL L) n
  have e2 : cnt (fun i => X i && !pL L i) n ≤ cnt (fun i => !pL L i) n := cnt_mono fun i _ hp => by
    simp only [Bool.and_eq_true] at hp; exact hp.2
  have e3 : cnt (fun i => X i && pL L i) n ≤ cnt (fun r => nbX E X r && (pL R r && X (gi R r).toNat)) m := cnt_inj (fun i => (gi L i).toNat) (fun i hi hp => by
    simp only [pL, Bool.and_eq_true, decide_eq_true_eq] at hp
    have h1 := hM.hLm i
    have h2 := (hM.hC i (gi L i).toNat).1 (by omega)
    have he : (((i : Nat) : Int), gi L i) ∈ E := (nbOf_mem h.hE i _).1 (hM.hE i hp.2)
    refine ⟨by omega, ?_⟩
    simp only [pL, Bool.and_eq_true, decide_eq_true_eq, h2, Int.toNat_natCast]
    exact ⟨nbX_iff.2 ⟨_, he, by simpa using hp.1, by simp only; omega⟩, by omega, hp.1⟩) fun i j hi hj hp hq e => by
    simp only [pL, Bool.and_eq_true, decide_eq_true_eq] at hp hq
    have h1 := (hM.hC i (gi L i).toNat).1 (by omega)
    have h2 := (hM.hC j (gi L i).toNat).1 (by omega)
    omega
  have e4 : cnt (fun r => nbX E X r && (pL R r && X (gi R r).toNat)) m ≤ cnt (nbX E X) m := cnt_mono fun i _ hp => by
    simp only [Bool.and_eq_true] at hp; exact hp.1
  refine ⟨by omega, fun hq => ?_⟩
  have f1 := cnt_all (p := fun i => X i && !pL L i) (q := fun i => !pL L i) (n := n) (fun i _ hp => by simp only [Bool.and_eq_true] at hp; exact hp.2) (by omega)
  have f2 := cnt_all (p := fun r => nbX E X r && (pL R r && X (gi R r).toNat)) (q := nbX E X) (n := m) (fun i _ hp => by simp only [Bool.and_eq_true] at hp; exact hp.1) (by omega)
  intro i hi
  have hl := (h.hS i).1 hi
  clear hi
  induction hl with
  | @free l a b =>
    have := f1 l a (by simp [pL]; omega)
    simp only [Bool.and_eq_true] at this
    exact this.1
  | @step l r l2 a b c ih =>
    have he := (nbOf_mem h.hE l r).1 b
    have hr := edgeIn_iff.1 (h.hE _ he)
    simp only at hr
    have := f2 r.toNat (by omega) (nbX_iff.2 ⟨_, he, by simpa using ih, by simp only; omega⟩)
    simp only [Bool.and_eq_true, c, Int.toNat_natCast] at this
    exact this.2.2
end
end Go.AM

namespace Go.Proofs.M
open Go.AM Go
set_option maxRecDepth 100000
set_option maxHeartbeats 2000000
def exE : List (Int × Int) := [(0, 0), (1, 0)]
theorem ex_gd : Gd 2 2 exE := ⟨by decide, by decide, by decide, by decide, by decide⟩
theorem isset_b (b : List Bool) (hb : b.length ≤ 512) : Reads Try.prog 21 false [.agg [.int .i64 b.length, .rsl 1 (words (setW b b.length))], .int .i64 b.length] (.bool true) := by
  have := isset_r b.length b.length (setW b b.length) (setW_ok b) (by have := setB_len hb; omega)
  rw [validS_setW hb] at this
  simpa using this
theorem awake_r : Reads Try.prog 9 false [] (.bool true) := by
  have h1 := max_good ex_gd.valid
  have h2 := cover_good ex_gd
  have h3 := hall_good ex_gd
  have v1 : maxP 2 2 exE = [(0, 0)] := by decide +kernel
  have v2 : cvL 2 2 exE = [false, false] := by decide +kernel
  have v3 : cvR 2 2 exE = [true, false] := by decide +kernel
  have v4 : (rchM 2 2 exE).l = [1, 0] := by decide +kernel
  have v5 : rowL 2 [1, 0] = [true, true] := by decide +kernel
  rw [v1] at h1
  rw [v2, v3] at h2
  rw [v4, if_neg (by decide), v5] at h3
  have s1 := isset_b [false, false] (by decide)
  have s2 := isset_b [true, false] (by decide)
  have s3 := isset_b [true, true] (by decide)
  have c1 := rcount_r [false, false] (by decide)
  have c3 := rcount_r [true, true] (by decide)
  have g1 := rhas_in [true, false] (by decide) 0 (by decide) (by decide)
  have g2 := rhas_in [true, false] (by decide) 1 (by decide) (by decide)
  have e1 : (memB [false, false]).length = 0 := by decide
  have e3 : (memB [true, true]).length = 2 := by decide
  rw [e1] at c1
  rw [e3] at c3
  unfold rowB at c1 c3 g1 g2
  simp only [List.length_cons, List.length_nil, Nat.reduceAdd] at s1 s2 s3 c1 c3 g1 g2
  simp only [exE, pairV, List.map_cons, List.map_nil] at h1 h2 h3
  generalize setW [false, false] 2 = A at *
  generalize setW [true, false] 2 = B at *
  generalize setW [true, true] 2 = C at *
  refine Reads.body (rs := [.tmp 0]) Try.func9 rfl Try.ntmps9 rfl (by simp) ?_
  generalize hQr : retQ _ _ _ = Qr
  refine AW.seq fun K1 hK1 => ?_
  -- region 0
  refine AW.regionK 0 (fun _ => none) [] [] ?_
  simp only [go_sem, reduceIte, reduceCtorEq, Nat.reduceAdd, Nat.reduceMul, Nat.reduceEqDiff, Nat.reduceLT, Nat.reduceLeDiff, Nat.reduceSub, Nat.reducePow, Nat.reduceBEq, Int.reduceToNat, List.reduceReplicate, decide_true, eq_self]
  repeat with_reducible refine cj ?_ ?_
  all_goals try first | omega
  refine hK1 _ _ _ ?_; clear hK1
  refine AW.seq fun K2 hK2 => ?_
  -- region 1
  refine AW.regionK 0 (fun _ => none) [1] [11] ?_
  simp only [go_sem, reduceIte, reduceCtorEq, Nat.reduceAdd, Nat.reduceMul, Nat.reduceEqDiff, Nat.reduceLT, Nat.reduceLeDiff, Nat.reduceSub, Nat.reducePow, Nat.reduceBEq, Int.reduceToNat, List.reduceReplicate, decide_true, eq_self]
  repeat with_reducible refine cj ?_ ?_
  all_goals try first | omega
  refine hK2 _ _ _ ?_; clear hK2
  refine AW.seq fun K3 hK3 => ?_
  refine AW.freezeK [11] [1] [] [] ?_
  simp only [go_sem, reduceIte, Nat.reduceEqDiff]
  -- region 2
  refine AW.regionK 0 (fun ii => if ii = 1 then some (.reads false (.tup [.rsl 2 [[.int .i64 0, .int .i64 0]], .int .i64 0])) else none) [1, 2, 3] [11] ?_
  simp only [go_sem, reduceIte, reduceCtorEq, Nat.reduceAdd, Nat.reduceMul, Nat.reduceEqDiff, Nat.reduceLT, Nat.reduceLeDiff, Nat.reduceSub, Nat.reducePow, Nat.reduceBEq, Int.reduceToNat, List.reduceReplicate, decide_true, eq_self]
  repeat with_reducible refine cj ?_ ?_
  all_goals try first | (exact h1) | omega | exact ent (by kernel_rfl)
  refine hK3 _ _ _ ?_; clear hK3
  refine AW.seq fun K4 hK4 => ?_
  -- region 3
  refine AW.regionK 0 (fun ii => if ii = 1 then some (.reads false (.tup [.agg [.int .i64 2, .rsl 1 (words A)], .agg [.int .i64 2, .rsl 1 (words B)], .int .i64 0])) else none) [1, 2, 3, 4, 5, 6] [4, 5, 11] ?_
  simp only [go_sem, reduceIte, reduceCtorEq, Nat.reduceAdd, Nat.reduceMul, Nat.reduceEqDiff, Nat.reduceLT, Nat.reduceLeDiff, Nat.reduceSub, Nat.reducePow, Nat.reduceBEq, Int.reduceToNat, List.reduceReplicate, decide_true, eq_self]
  repeat with_reducible refine cj ?_ ?_
  all_goals try first | (exact h2) | omega | exact ent (by kernel_rfl)
  refine hK4 _ _ _ ?_; clear hK4
  refine AW.seq fun K5 hK5 => ?_
  -- region 4
  refine AW.regionK 0 (fun ii => if ii = 1 then some (.reads false (.tup [.agg [.int .i64 2, .rsl 1 (words C)], .int .i64 0])) else none) [2, 3, 4, 5, 6, 7, 8] [4, 5, 7] ?_
  simp only [go_sem, reduceIte, reduceCtorEq, Nat.reduceAdd, Nat.reduceMul, Nat.reduceEqDiff, Nat.reduceLT, Nat.reduceLeDiff, Nat.reduceSub, Nat.reducePow, Nat.reduceBEq, Int.reduceToNat, List.reduceReplicate, decide_true, eq_self]
  repeat with_reducible refine cj ?_ ?_
  all_goals try first | (exact h3) | omega | exact ent (by kernel_rfl)
  refine hK5 _ _ _ ?_; clear hK5
  refine AW.seq fun K6 hK6 => ?_
  -- region 5
  refine AW.regionK 0 (fun ii => if ii = 13 then some (.reads false (.bool true)) else if ii = 17 then some (.reads false (.int .i64 0)) else if ii = 22 then some (.reads false (.bool true)) else if ii = 26 then some (.reads false (.bool true)) else if ii = 30 then some (.reads false (.bool false)) else if ii = 39 then some (.reads false (.bool true)) else if ii = 43 then some (.reads false (.int .i64 2)) else none) [0] [] ?_
  simp (maxSteps := 2000000) only [go_sem, reduceIte, reduceCtorEq, Nat.reduceAdd, Nat.reduceMul, Nat.reduceEqDiff, Nat.reduceLT, Nat.reduceLeDiff, Nat.reduceSub, Nat.reducePow, Nat.reduceBEq, Int.reduceToNat, List.reduceReplicate, decide_true, eq_self]
  repeat with_reducible refine cj ?_ ?_
  all_goals try first | (first | exact s1 | exact s2 | exact s3 | exact c1 | exact c3 | exact g1 | exact g2) | (intros; (repeat' apply And.intro) <;> first | assumption | (first | exact s1 | exact s2 | exact s3 | exact c1 | exact c3 | exact g1 | exact g2)) | omega | exact ent (by kernel_rfl) | (intro hgd; exact absurd hgd (by decide)) | rfl | (simp only [go_sem, reduceIte, reduceCtorEq, Nat.reduceAdd, Nat.reduceMul, Nat.reduceEqDiff, Nat.reduceLT, Nat.reduceLeDiff, Nat.reduceSub, Nat.reducePow, Nat.reduceBEq, Int.reduceToNat, List.reduceReplicate, decide_true, eq_self]; done) | (intro _hgd; simp_all [go_sem]; done)
  refine hK6 _ _ _ ?_; clear hK6
  refine AW.ret ?_
  rw [← hQr]
  simp only [go_sem, reduceIte, reduceCtorEq, Nat.reduceAdd, Nat.reduceMul, Nat.reduceEqDiff, Nat.reduceLT, Nat.reduceLeDiff, Nat.reduceSub, Nat.reducePow, Nat.reduceBEq, Int.reduceToNat, List.reduceReplicate, decide_true, eq_self]
  exact Wk.refl _
end Go.Proofs.M

namespace Go.Proofs.M
open Go.AM Go
set_option maxRecDepth 100000
set_option maxHeartbeats 2000000
theorem sg_dec {b : List Bool} {i : Nat} {p : Prop} [Decidable p] (h : sg b i ↔ p) : b.getD i false = decide p := by
  unfold sg at h
  cases hb : b.getD i false with
  | true => exact (decide_eq_true (h.1 hb)).symm
  | false => exact (decide_eq_false (fun hp => by rw [h.2 hp] at hb; cases hb)).symm
theorem Gd.inL {n m : Nat} {E : List (Int × Int)} (h : Gd n m E) (i : Nat) : sg (refM n m E).1 i ↔ (i : Int) ∈ (rchM n m E).l := by
  rw [h.ref.2.2.1 i]; exact ((reachP_spec (nbOf_len n E) h.rng h.max.1).2.1 i).symm
theorem Gd.inQ {n m : Nat} {E : List (Int × Int)} (h : Gd n m E) (i : Nat) : sg (refM n m E).2 i ↔ (i : Int) ∈ (rchM n m E).q := by
  rw [h.ref.2.2.2 i]; exact ((reachP_spec (nbOf_len n E) h.rng h.max.1).2.2 i).symm
theorem cvL_len (n m : Nat) (E : List (Int × Int)) : (cvL n m E).length = n := rowL_len _ _
theorem cvR_len (n m : Nat) (E : List (Int × Int)) : (cvR n m E).length = m := rowL_len _ _
theorem cvL_eq {n m : Nat} {E : List (Int × Int)} (h : Gd n m E) : cvL n m E = (refM n m E).1.map (!·) := by
  refine getD_extB (by rw [cvL_len, List.length_map, h.ref.1]) fun i hi => ?_
  rw [cvL_len] at hi
  unfold cvL
  rw [rowL_get hi]
  have hl := h.ref.1
  have h1 := sg_dec (h.inL i)
  rw [List.getD_eq_getElem?_getD, List.getElem?_eq_getElem (by omega), Option.getD_some] at h1
  rw [List.getD_eq_getElem?_getD, List.getElem?_map, List.getElem?_eq_getElem (by omega), Option.map_some, Option.getD_some, h1, ← decide_not]
  refine decide_eq_decide.2 ?_
  rw [restI_mem]
  constructor
  · rintro ⟨k, e, _, h2⟩
    have : i = k := by omega
    subst this; exact h2
  · intro h2; exact ⟨i, rfl, hi, h2⟩
theorem cvR_eq {n m : Nat} {E : List (Int × Int)} (h : Gd n m E) : cvR n m E = (refM n m E).2 := by
  refine getD_extB (by rw [cvR_len, h.ref.2.1]) fun i hi => ?_
  rw [cvR_len] at hi
  unfold cvR
  rw [rowL_get hi, sg_dec (h.inQ i)]
theorem cntR_cnt (R : List Int) : ∀ j, j ≤ R.length → cntR R j = cnt (pL R) j
  | 0, _ => rfl
  | j + 1, hj => by
    rw [cntR_succ (by omega), cnt_succ, cntR_cnt R j (by omega), gi_eq (by omega)]
    by_cases h : 0 ≤ gi R j <;> simp [h]
theorem prsL_up (L : List Int) (n i : Nat) (a b : Int × Int) (ha : (prsL L n)[i]? = some a) (hb : (prsL L n)[i + 1]? = some b) : a.1 < b.1 := by
  have hp : (prsL L n).Pairwise fun x y => x.1 < y.1 := by
    unfold prsL
    refine List.pairwise_map.2 (List.Pairwise.imp (fun {a b} h => ?_) (List.Pairwise.sublist List.filter_sublist (List.pairwise_lt_range (n := n))))
    simp only; omega
  obtain ⟨h1, rfl⟩ := List.getElem?_eq_some_iff.1 ha
  obtain ⟨h2, rfl⟩ := List.getElem?_eq_some_iff.1 hb
  exact List.pairwise_iff_getElem.1 hp i (i + 1) h1 h2 (by omega)
theorem maxP_len {n m : Nat} {E : List (Int × Int)} (h : Gd n m E) : (maxP n m E).length = cntR (maxLR (nbOf n E) n m n).2 m := by
  unfold maxP
  rw [prsL_len h.max.1.hL, mch_cnt h.max.1, cntR_cnt _ _ (by rw [h.max.1.hR]; exact Nat.le_refl _)]
theorem maxP_mat {n m : Nat} {E : List (Int × Int)} (h : Gd n m E) : isMat E (maxP n m E) = true := mch_mat h.max.1 h.hE
theorem maxP_le (n m : Nat) (E : List (Int × Int)) : (maxP n m E).length ≤ n := prsL_le _ _
theorem law_max_bad (n m : Int) (E : List (Int × Int)) (hl : E.length ≤ 9223372036854775807) (hv : validM n m E = false) : Reads Try.prog 3 false [.int .i64 n, .int .i64 m, .rsl 2 (E.map pairV)] (.bool true) := by
  have h1 := max_bad n m E hl hv
  have h2 := cover_bad n m E hl hv
  have h3 := mvalid_r n m E hl
  have h4 := rvalid_r n m E hl
  rw [hv] at h3 h4
  have hgr := great_r n m E hl
  have haw := awake_r
  have hs0 := rsame_nil 0
  refine Reads.body (rs := [.tmp 6]) Try.func3 rfl Try.ntmps3 rfl (by simp) ?_
  generalize hQr : retQ _ _ _ = Qr
  refine AW.seq fun K1 hK1 => ?_
  -- region 0
  refine AW.regionK 0 (fun _ => none) [0, 1, 2] [] ?_
  simp only [go_sem, reduceIte, reduceCtorEq, Nat.reduceAdd, Nat.reduceMul, Nat.reduceEqDiff, Nat.reduceLT, Nat.reduceLeDiff, Nat.reduceSub, Nat.reducePow, Nat.reduceBEq, Int.reduceToNat, List.reduceReplicate]
  repeat with_reducible refine cj ?_ ?_
  all_goals try first | omega
  refine hK1 _ _ _ ?_; clear hK1
  refine AW.seq fun K2 hK2 => ?_
  refine AW.seq fun K3 hK3 => ?_
  -- region 1
  refine AW.regionK 0 (fun ii => if ii = 0 then some (.reads false (.bool true)) else none) [0, 1, 2, 16] [] ?_
  simp only [go_sem, reduceIte, reduceCtorEq, Nat.reduceAdd, Nat.reduceMul, Nat.reduceEqDiff, Nat.reduceLT, Nat.reduceLeDiff, Nat.reduceSub, Nat.reducePow, Nat.reduceBEq, Int.reduceToNat, List.reduceReplicate]
  repeat with_reducible refine cj ?_ ?_
  all_goals try first | (exact haw) | omega | exact ent (by kernel_rfl)
  refine hK3 _ _ _ ?_; clear hK3
  -- cond 1
  refine AW.cond rfl (by simp only [go_sem, reduceIte, reduceCtorEq, Nat.reduceAdd, Nat.reduceMul, Nat.reduceEqDiff, Nat.reduceLT, Nat.reduceLeDiff, Nat.reduceSub, Nat.reducePow, Nat.reduceBEq, Int.reduceToNat, List.reduceReplicate]) ?_ ?_
  · intro hb
    try simp only [hB, decide_eq_true_eq, decide_eq_false_iff_not] at hb
    simp at hb
  · intro hb
    try simp only [hB, decide_eq_true_eq, decide_eq_false_iff_not] at hb
    refine AW.skip ?_
    refine hK2 _ _ _ ?_; clear hK2
    refine AW.seq fun K4 hK4 => ?_
    refine AW.seq fun K5 hK5 => ?_
    -- region 3
    refine AW.regionK 0 (fun ii => if ii = 3 then some (.reads false (.bool (decide (60 < n) && decide (n ≤ 512) || decide (60 < m) && decide (m ≤ 512) || (decide (400 < (E.length : Int)) && decide ((E.length : Int) ≤ 2000)) || decide (2100 < (E.length : Int))))) else none) [0, 1, 2, 20] [] ?_
    simp only [go_sem, reduceIte, reduceCtorEq, Nat.reduceAdd, Nat.reduceMul, Nat.reduceEqDiff, Nat.reduceLT, Nat.reduceLeDiff, Nat.reduceSub, Nat.reducePow, Nat.reduceBEq, Int.reduceToNat, List.reduceReplicate]
    repeat with_reducible refine cj ?_ ?_
    all_goals try first | (exact hgr) | omega | exact ent (by kernel_rfl)
    refine hK5 _ _ _ ?_; clear hK5
    -- cond 2
    refine AW.cond rfl (by simp only [go_sem, reduceIte, reduceCtorEq, Nat.reduceAdd, Nat.reduceMul, Nat.reduceEqDiff, Nat.reduceLT, Nat.reduceLeDiff, Nat.reduceSub, Nat.reducePow, Nat.reduceBEq, Int.reduceToNat, List.reduceReplicate]) ?_ ?_
    · intro hb
      try simp only [hB, decide_eq_true_eq, decide_eq_false_iff_not] at hb
      refine AW.seq fun K6 hK6 => ?_
      -- region 4
      refine AW.regionK 0 (fun _ => none) [6] [] ?_
      simp only [go_sem, reduceIte, reduceCtorEq, Nat.reduceAdd, Nat.reduceMul, Nat.reduceEqDiff, Nat.reduceLT, Nat.reduceLeDiff, Nat.reduceSub, Nat.reducePow, Nat.reduceBEq, Int.reduceToNat, List.reduceReplicate]
      repeat with_reducible refine cj ?_ ?_
      all_goals try first | omega
      refine hK6 _ _ _ ?_; clear hK6
      refine AW.ret ?_
      rw [← hQr]
      simp only [go_sem, reduceIte, reduceCtorEq, Nat.reduceAdd, Nat.reduceMul, Nat.reduceEqDiff, Nat.reduceLT, Nat.reduceLeDiff, Nat.reduceSub, Nat.reducePow, Nat.reduceBEq, Int.reduceToNat, List.reduceReplicate]
      exact Wk.refl _
    · intro hb
      try simp only [hB, decide_eq_true_eq, decide_eq_false_iff_not] at hb
      refine AW.skip ?_
      refine hK4 _ _ _ ?_; clear hK4
      refine AW.seq fun K7 hK7 => ?_
      -- region 5
      refine AW.regionK 0 (fun ii => if ii = 3 then some (.reads false (.tup [.nilsl, .int .i64 1])) else none) [0, 1, 2, 7, 8] [] ?_
      simp only [go_sem, reduceIte, reduceCtorEq, Nat.reduceAdd, Nat.reduceMul, Nat.reduceEqDiff, Nat.reduceLT, Nat.reduceLeDiff, Nat.reduceSub, Nat.reducePow, Nat.reduceBEq, Int.reduceToNat, List.reduceReplicate]
      repeat with_reducible refine cj ?_ ?_
      all_goals try first | (exact h1) | omega | exact ent (by kernel_rfl)
      refine hK7 _ _ _ ?_; clear hK7
      refine AW.seq fun K8 hK8 => ?_
      -- region 6
      refine AW.regionK 0 (fun ii => if ii = 3 then some (.reads false (.tup [.agg [.int .i64 0, .nilsl], .agg [.int .i64 0, .nilsl], .int .i64 1])) else none) [0, 1, 2, 7, 8, 9, 10, 11] [9, 10] ?_
      simp only [go_sem, reduceIte, reduceCtorEq, Nat.reduceAdd, Nat.reduceMul, Nat.reduceEqDiff, Nat.reduceLT, Nat.reduceLeDiff, Nat.reduceSub, Nat.reducePow, Nat.reduceBEq, Int.reduceToNat, List.reduceReplicate]
      repeat with_reducible refine cj ?_ ?_
      all_goals try first | (exact h2) | omega | exact ent (by kernel_rfl)
      refine hK8 _ _ _ ?_; clear hK8
      refine AW.seq fun K9 hK9 => ?_
      -- region 7
      refine AW.regionK 0 (fun ii => if ii = 3 then some (.reads false (.bool false)) else none) [0, 1, 2, 7, 8, 9, 10, 11, 12] [9, 10] ?_
      simp only [go_sem, reduceIte, reduceCtorEq, Nat.reduceAdd, Nat.reduceMul, Nat.reduceEqDiff, Nat.reduceLT, Nat.reduceLeDiff, Nat.reduceSub, Nat.reducePow, Nat.reduceBEq, Int.reduceToNat, List.reduceReplicate]
      repeat with_reducible refine cj ?_ ?_
      all_goals try first | (exact h4) | omega | exact ent (by kernel_rfl)
      refine hK9 _ _ _ ?_; clear hK9
      refine AW.seq fun K10 hK10 => ?_
      refine AW.seq fun K11 hK11 => ?_
      -- region 8
      refine AW.regionK 0 (fun ii => if ii = 3 then some (.reads false (.bool false)) else none) [0, 1, 2, 7, 8, 9, 10, 11, 12, 45] [9, 10] ?_
      simp only [go_sem, reduceIte, reduceCtorEq, Nat.reduceAdd, Nat.reduceMul, Nat.reduceEqDiff, Nat.reduceLT, Nat.reduceLeDiff, Nat.reduceSub, Nat.reducePow, Nat.reduceBEq, Int.reduceToNat, List.reduceReplicate]
      repeat with_reducible refine cj ?_ ?_
      all_goals try first | (exact h3) | omega | exact ent (by kernel_rfl)
      refine hK11 _ _ _ ?_; clear hK11
      -- cond 3
      refine AW.cond rfl (by simp only [go_sem, reduceIte, reduceCtorEq, Nat.reduceAdd, Nat.reduceMul, Nat.reduceEqDiff, Nat.reduceLT, Nat.reduceLeDiff, Nat.reduceSub, Nat.reducePow, Nat.reduceBEq, Int.reduceToNat, List.reduceReplicate]) ?_ ?_
      · intro hb
        try simp only [hB, decide_eq_true_eq, decide_eq_false_iff_not] at hb
        exfalso; simp at hb
      · intro hb
        try simp only [hB, decide_eq_true_eq, decide_eq_false_iff_not] at hb
        refine AW.skip ?_
        refine hK10 _ _ _ ?_; clear hK10
        refine AW.seq fun K12 hK12 => ?_
        refine AW.seq fun K13 hK13 => ?_
        -- region 10
        refine AW.regionK 0 (fun _ => none) [0, 1, 2, 7, 8, 9, 10, 11, 47] [9, 10] ?_
        simp only [go_sem, reduceIte, reduceCtorEq, Nat.reduceAdd, Nat.reduceMul, Nat.reduceEqDiff, Nat.reduceLT, Nat.reduceLeDiff, Nat.reduceSub, Nat.reducePow, Nat.reduceBEq, Int.reduceToNat, List.reduceReplicate]
        repeat with_reducible refine cj ?_ ?_
        all_goals try first | omega
        refine hK13 _ _ _ ?_; clear hK13
        -- cond 4
        refine AW.cond rfl (by simp only [go_sem, reduceIte, reduceCtorEq, Nat.reduceAdd, Nat.reduceMul, Nat.reduceEqDiff, Nat.reduceLT, Nat.reduceLeDiff, Nat.reduceSub, Nat.reducePow, Nat.reduceBEq, Int.reduceToNat, List.reduceReplicate]) ?_ ?_
        · intro hb
          try simp only [hB, decide_eq_true_eq, decide_eq_false_iff_not] at hb
          refine AW.seq fun K14 hK14 => ?_
          -- region 11
          refine AW.regionK 0 (fun ii => if ii = 14 then some (.reads false (.bool true)) else if ii = 19 then some (.reads false (.bool true)) else none) [6] [] ?_
          simp only [go_sem, reduceIte, reduceCtorEq, Nat.reduceAdd, Nat.reduceMul, Nat.reduceEqDiff, Nat.reduceLT, Nat.reduceLeDiff, Nat.reduceSub, Nat.reducePow, Nat.reduceBEq, Int.reduceToNat, List.reduceReplicate]
          repeat with_reducible refine cj ?_ ?_
          all_goals try first | (exact hs0) | (intros; (repeat' apply And.intro) <;> first | assumption | (exact hs0)) | omega | exact ent (by kernel_rfl) | (intro hgd; exact absurd hgd (by decide)) | rfl | (simp only [go_sem, reduceIte, reduceCtorEq, Nat.reduceAdd, Nat.reduceMul, Nat.reduceEqDiff, Nat.reduceLT, Nat.reduceLeDiff, Nat.reduceSub, Nat.reducePow, Nat.reduceBEq, Int.reduceToNat, List.reduceReplicate]; done) | (intro _hgd; simp_all [go_sem]; done)
          refine hK14 _ _ _ ?_; clear hK14
          refine AW.ret ?_
          rw [← hQr]
          simp only [go_sem, reduceIte, reduceCtorEq, Nat.reduceAdd, Nat.reduceMul, Nat.reduceEqDiff, Nat.reduceLT, Nat.reduceLeDiff, Nat.reduceSub, Nat.reducePow, Nat.reduceBEq, Int.reduceToNat, List.reduceReplicate]
          exact Wk.refl _
        · intro hb
          try simp only [hB, decide_eq_true_eq, decide_eq_false_iff_not] at hb
          exfalso; simp at hb
theorem law_max_good {n m : Nat} {E : List (Int × Int)} (h : Gd n m E) : Reads Try.prog 3 false [.int .i64 n, .int .i64 m, .rsl 2 (E.map pairV)] (.bool true) := by
  have hl : E.length ≤ 9223372036854775807 := by have := h.hl; omega
  have h1 := max_good h.valid
  have h2 := cover_good h
  have h3 := mvalid_r n m E hl
  have h4 := rvalid_r n m E hl
  rw [h.valid] at h3 h4
  have hgr := great_r n m E hl
  have haw := awake_r
  have h5 := rcover_r h
  have hsz := size_r h.hn h.hm h.hE h.hl
  rw [← maxP_len h] at hsz
  have hle := maxP_le n m E
  have hn := h.hn
  have hm := h.hm
  have hri := rising_r (maxP n m E) (by omega) (fun i a b => prsL_up _ n i a b)
  have hma := ismat_r h.hn h.hm E (maxP n m E) h.hE hl (by omega)
  rw [maxP_mat h] at hma
  rw [cvL_eq h, cvR_eq h] at h2
  have hs1 := rsame_r (n : Int) (setW ((refM n m E).1.map (!·)) n) (by have := setB_len (b := (refM n m E).1.map (!·)) (by rw [List.length_map, h.ref.1]; exact hn); rw [List.length_map, h.ref.1] at this; omega)
  have hs2 := rsame_r (m : Int) (setW (refM n m E).2 m) (by have := setB_len (b := (refM n m E).2) (by rw [h.ref.2.1]; exact hm); rw [h.ref.2.1] at this; omega)
  generalize setW ((refM n m E).1.map (!·)) n = A at *
  generalize setW (refM n m E).2 m = B at *
  generalize maxP n m E = P at *
  refine Reads.body (rs := [.tmp 6]) Try.func3 rfl Try.ntmps3 rfl (by simp) ?_
  generalize hQr : retQ _ _ _ = Qr
  refine AW.seq fun K1 hK1 => ?_
  -- region 0
  refine AW.regionK 0 (fun _ => none) [0, 1, 2] [] ?_
  simp only [go_sem, reduceIte, reduceCtorEq, Nat.reduceAdd, Nat.reduceMul, Nat.reduceEqDiff, Nat.reduceLT, Nat.reduceLeDiff, Nat.reduceSub, Nat.reducePow, Nat.reduceBEq, Int.reduceToNat, List.reduceReplicate]
  repeat with_reducible refine cj ?_ ?_
  all_goals try first | omega
  refine hK1 _ _ _ ?_; clear hK1
  refine AW.seq fun K2 hK2 => ?_
  refine AW.seq fun K3 hK3 => ?_
  -- region 1
  refine AW.regionK 0 (fun ii => if ii = 0 then some (.reads false (.bool true)) else none) [0, 1, 2, 16] [] ?_
  simp only [go_sem, reduceIte, reduceCtorEq, Nat.reduceAdd, Nat.reduceMul, Nat.reduceEqDiff, Nat.reduceLT, Nat.reduceLeDiff, Nat.reduceSub, Nat.reducePow, Nat.reduceBEq, Int.reduceToNat, List.reduceReplicate]
  repeat with_reducible refine cj ?_ ?_
  all_goals try first | (exact haw) | omega | exact ent (by kernel_rfl)
  refine hK3 _ _ _ ?_; clear hK3
  -- cond 1
  refine AW.cond rfl (by simp only [go_sem, reduceIte, reduceCtorEq, Nat.reduceAdd, Nat.reduceMul, Nat.reduceEqDiff, Nat.reduceLT, Nat.reduceLeDiff, Nat.reduceSub, Nat.reducePow, Nat.reduceBEq, Int.reduceToNat, List.reduceReplicate]) ?_ ?_
  · intro hb
    try simp only [hB, decide_eq_true_eq, decide_eq_false_iff_not] at hb
    simp at hb
  · intro hb
    try simp only [hB, decide_eq_true_eq, decide_eq_false_iff_not] at hb
    refine AW.skip ?_
    refine hK2 _ _ _ ?_; clear hK2
    refine AW.seq fun K4 hK4 => ?_
    refine AW.seq fun K5 hK5 => ?_
    -- region 3
    refine AW.regionK 0 (fun ii => if ii = 3 then some (.reads false (.bool (decide (60 < (n : Int)) && decide ((n : Int) ≤ 512) || decide (60 < (m : Int)) && decide ((m : Int) ≤ 512) || (decide (400 < (E.length : Int)) && decide ((E.length : Int) ≤ 2000)) || decide (2100 < (E.length : Int))))) else none) [0, 1, 2, 20] [] ?_
    simp only [go_sem, reduceIte, reduceCtorEq, Nat.reduceAdd, Nat.reduceMul, Nat.reduceEqDiff, Nat.reduceLT, Nat.reduceLeDiff, Nat.reduceSub, Nat.reducePow, Nat.reduceBEq, Int.reduceToNat, List.reduceReplicate]
    repeat with_reducible refine cj ?_ ?_
    all_goals try first | (exact hgr) | omega | exact ent (by kernel_rfl)
    refine hK5 _ _ _ ?_; clear hK5
    -- cond 2
    refine AW.cond rfl (by simp only [go_sem, reduceIte, reduceCtorEq, Nat.reduceAdd, Nat.reduceMul, Nat.reduceEqDiff, Nat.reduceLT, Nat.reduceLeDiff, Nat.reduceSub, Nat.reducePow, Nat.reduceBEq, Int.reduceToNat, List.reduceReplicate]) ?_ ?_
    · intro hb
      try simp only [hB, decide_eq_true_eq, decide_eq_false_iff_not] at hb
      refine AW.seq fun K6 hK6 => ?_
      -- region 4
      refine AW.regionK 0 (fun _ => none) [6] [] ?_
      simp only [go_sem, reduceIte, reduceCtorEq, Nat.reduceAdd, Nat.reduceMul, Nat.reduceEqDiff, Nat.reduceLT, Nat.reduceLeDiff, Nat.reduceSub, Nat.reducePow, Nat.reduceBEq, Int.reduceToNat, List.reduceReplicate]
      repeat with_reducible refine cj ?_ ?_
      all_goals try first | omega
      refine hK6 _ _ _ ?_; clear hK6
      refine AW.ret ?_
      rw [← hQr]
      simp only [go_sem, reduceIte, reduceCtorEq, Nat.reduceAdd, Nat.reduceMul, Nat.reduceEqDiff, Nat.reduceLT, Nat.reduceLeDiff, Nat.reduceSub, Nat.reducePow, Nat.reduceBEq, Int.reduceToNat, List.reduceReplicate]
      exact Wk.refl _
    · intro hb
      try simp only [hB, decide_eq_true_eq, decide_eq_false_iff_not] at hb
      refine AW.skip ?_
      refine hK4 _ _ _ ?_; clear hK4
      refine AW.seq fun K7 hK7 => ?_
      -- region 5
      refine AW.regionK 0 (fun ii => if ii = 3 then some (.reads false (.tup [.rsl 2 (P.map pairV), .int .i64 0])) else none) [0, 1, 2, 7, 8] [] ?_
      simp only [go_sem, reduceIte, reduceCtorEq, Nat.reduceAdd, Nat.reduceMul, Nat.reduceEqDiff, Nat.reduceLT, Nat.reduceLeDiff, Nat.reduceSub, Nat.reducePow, Nat.reduceBEq, Int.reduceToNat, List.reduceReplicate]
      repeat with_reducible refine cj ?_ ?_
      all_goals try first | (exact h1) | omega | exact ent (by kernel_rfl)
      refine hK7 _ _ _ ?_; clear hK7
      refine AW.seq fun K8 hK8 => ?_
      -- region 6
      refine AW.regionK 0 (fun ii => if ii = 3 then some (.reads false (.tup [.agg [.int .i64 n, .rsl 1 (words A)], .agg [.int .i64 m, .rsl 1 (words B)], .int .i64 0])) else none) [0, 1, 2, 7, 8, 9, 10, 11] [9, 10] ?_
      simp only [go_sem, reduceIte, reduceCtorEq, Nat.reduceAdd, Nat.reduceMul, Nat.reduceEqDiff, Nat.reduceLT, Nat.reduceLeDiff, Nat.reduceSub, Nat.reducePow, Nat.reduceBEq, Int.reduceToNat, List.reduceReplicate]
      repeat with_reducible refine cj ?_ ?_
      all_goals try first | (exact h2) | omega | exact ent (by kernel_rfl)
      refine hK8 _ _ _ ?_; clear hK8
      refine AW.seq fun K9 hK9 => ?_
      -- region 7
      refine AW.regionK 0 (fun ii => if ii = 3 then some (.reads false (.bool true)) else none) [0, 1, 2, 7, 8, 9, 10, 11, 12] [9, 10] ?_
      simp only [go_sem, reduceIte, reduceCtorEq, Nat.reduceAdd, Nat.reduceMul, Nat.reduceEqDiff, Nat.reduceLT, Nat.reduceLeDiff, Nat.reduceSub, Nat.reducePow, Nat.reduceBEq, Int.reduceToNat, List.reduceReplicate]
      repeat with_reducible refine cj ?_ ?_
      all_goals try first | (exact h4) | omega | exact ent (by kernel_rfl)
      refine hK9 _ _ _ ?_; clear hK9
      refine AW.seq fun K10 hK10 => ?_
      refine AW.seq fun K11 hK11 => ?_
      -- region 8
      refine AW.regionK 0 (fun ii => if ii = 3 then some (.reads false (.bool true)) else none) [0, 1, 2, 7, 8, 9, 10, 11, 12, 45] [9, 10] ?_
      simp only [go_sem, reduceIte, reduceCtorEq, Nat.reduceAdd, Nat.reduceMul, Nat.reduceEqDiff, Nat.reduceLT, Nat.reduceLeDiff, Nat.reduceSub, Nat.reducePow, Nat.reduceBEq, Int.reduceToNat, List.reduceReplicate]
      repeat with_reducible refine cj ?_ ?_
      all_goals try first | (exact h3) | omega | exact ent (by kernel_rfl)
      refine hK11 _ _ _ ?_; clear hK11
      -- cond 3
      refine AW.cond rfl (by simp only [go_sem, reduceIte, reduceCtorEq, Nat.reduceAdd, Nat.reduceMul, Nat.reduceEqDiff, Nat.reduceLT, Nat.reduceLeDiff, Nat.reduceSub, Nat.reducePow, Nat.reduceBEq, Int.reduceToNat, List.reduceReplicate]) ?_ ?_
      · intro hb
        try simp only [hB, decide_eq_true_eq, decide_eq_false_iff_not] at hb
        exfalso; simp at hb
      · intro hb
        try simp only [hB, decide_eq_true_eq, decide_eq_false_iff_not] at hb
        refine AW.skip ?_
        refine hK10 _ _ _ ?_; clear hK10
        refine AW.seq fun K12 hK12 => ?_
        refine AW.seq fun K13 hK13 => ?_
        -- region 10
        refine AW.regionK 0 (fun _ => none) [0, 1, 2, 7, 8, 9, 10, 11, 47] [9, 10] ?_
        simp only [go_sem, reduceIte, reduceCtorEq, Nat.reduceAdd, Nat.reduceMul, Nat.reduceEqDiff, Nat.reduceLT, Nat.reduceLeDiff, Nat.reduceSub, Nat.reducePow, Nat.reduceBEq, Int.reduceToNat, List.reduceReplicate]
        repeat with_reducible refine cj ?_ ?_
        all_goals try first | omega
        refine hK13 _ _ _ ?_; clear hK13
        -- cond 4
        refine AW.cond rfl (by simp only [go_sem, reduceIte, reduceCtorEq, Nat.reduceAdd, Nat.reduceMul, Nat.reduceEqDiff, Nat.reduceLT, Nat.reduceLeDiff, Nat.reduceSub, Nat.reducePow, Nat.reduceBEq, Int.reduceToNat, List.reduceReplicate]) ?_ ?_
        · intro hb
          try simp only [hB, decide_eq_true_eq, decide_eq_false_iff_not] at hb
          exfalso; simp at hb
        · intro hb
          try simp only [hB, decide_eq_true_eq, decide_eq_false_iff_not] at hb
          refine AW.skip ?_
          refine hK12 _ _ _ ?_; clear hK12
          refine AW.seq fun K14 hK14 => ?_
          -- region 12
          refine AW.regionK 0 (fun ii => if ii = 3 then some (.reads false (.tup [.agg [.int .i64 n, .rsl 1 (words A)], .agg [.int .i64 m, .rsl 1 (words B)]])) else none) [0, 1, 2, 7, 8, 9, 10, 11, 13, 14] [9, 10, 13, 14] ?_
          simp only [go_sem, reduceIte, reduceCtorEq, Nat.reduceAdd, Nat.reduceMul, Nat.reduceEqDiff, Nat.reduceLT, Nat.reduceLeDiff, Nat.reduceSub, Nat.reducePow, Nat.reduceBEq, Int.reduceToNat, List.reduceReplicate]
          repeat with_reducible refine cj ?_ ?_
          all_goals try first | (exact h5) | omega | exact ent (by kernel_rfl)
          refine hK14 _ _ _ ?_; clear hK14
          refine AW.seq fun K15 hK15 => ?_
          -- region 13
          refine AW.regionK 0 (fun ii => if ii = 4 then some (.reads false (.bool true)) else if ii = 11 then some (.reads false (.bool true)) else if ii = 19 then some (.reads false (.int .i64 (P.length : Nat))) else if ii = 29 then some (.reads false (.bool true)) else if ii = 34 then some (.reads false (.bool true)) else none) [6] [] ?_
          simp (maxSteps := 2000000) only [go_sem, reduceIte, reduceCtorEq, Nat.reduceAdd, Nat.reduceMul, Nat.reduceEqDiff, Nat.reduceLT, Nat.reduceLeDiff, Nat.reduceSub, Nat.reducePow, Nat.reduceBEq, Int.reduceToNat, List.reduceReplicate]
          repeat with_reducible refine cj ?_ ?_
          all_goals try first | (first | exact hri | exact hma | exact hsz | exact hs1 | exact hs2) | (intros; (repeat' apply And.intro) <;> first | assumption | (first | exact hri | exact hma | exact hsz | exact hs1 | exact hs2)) | omega | exact ent (by kernel_rfl) | (intro hgd; exact absurd hgd (by decide)) | rfl | (simp only [go_sem, reduceIte, reduceCtorEq, Nat.reduceAdd, Nat.reduceMul, Nat.reduceEqDiff, Nat.reduceLT, Nat.reduceLeDiff, Nat.reduceSub, Nat.reducePow, Nat.reduceBEq, Int.reduceToNat, List.reduceReplicate]; done) | (intro _hgd; simp_all [go_sem]; done)
          refine hK15 _ _ _ ?_; clear hK15
          refine AW.ret ?_
          rw [← hQr]
          simp only [go_sem, reduceIte, reduceCtorEq, Nat.reduceAdd, Nat.reduceMul, Nat.reduceEqDiff, Nat.reduceLT, Nat.reduceLeDiff, Nat.reduceSub, Nat.reducePow, Nat.reduceBEq, Int.reduceToNat, List.reduceReplicate]
          exact Wk.of_eq (by simp)
theorem law_max (n m : Int) (E : List (Int × Int)) (hl : E.length ≤ 9223372036854775807) : Reads Try.prog 3 false [.int .i64 n, .int .i64 m, .rsl 2 (E.map pairV)] (.bool true) := by
  by_cases hv : validM n m E = true
  · obtain ⟨a, b, rfl, rfl, h⟩ := gd_of hv
    exact law_max_good h
  · exact law_max_bad n m E hl (by simpa using hv)
end Go.Proofs.M

/- Arguments that are read as data, as pure trees. -/
namespace Go.AM

inductive F2 {α β : Type} (R : α → β → Prop) : List α → List β → Prop
  | nil : F2 R [] []
  | cons {a b l r} (h : R a b) (t : F2 R l r) : F2 R (a :: l) (b :: r)

/-- The shape of a type's cells. -/
def Fit (P : Program) : Nat → TypeId → List AV → Prop
  | 0, _, _ => False
  | f + 1, t, avs => match P.underlying t with
    | some .bool => ∃ b, avs = [.bool b]
    | some (.int k) => ∃ n, avs = [.int k n] ∧ k.min ≤ n ∧ n ≤ k.max
    | some .string => ∃ s, avs = [.str s]
    | some (.slice e) => P.cellsOf e = 0 ∨ ∃ es, avs = [.rsl (P.cellsOf e) es] ∧ es.length ≤ maxLen ∧ ∀ x ∈ es, x.length = P.cellsOf e ∧ Fit P f e x
    | some (.struct fs) => ∃ parts : List (List AV), avs = parts.flatten ∧ F2 (fun (fl : Field) p => p.length = P.cellsOf fl.type ∧ Fit P f fl.type p) fs.toList parts
    | some (.array n e) => ∃ parts : List (List AV), avs = parts.flatten ∧ parts.length = n ∧ ∀ p ∈ parts, p.length = P.cellsOf e ∧ Fit P f e p
    | _ => True

abbrev immW (w : World) : Nat → Prop := immF w fun _ => False
def Match (w : World) (avs : List AV) (cs : List Value) : Prop := avs.length = cs.length ∧ ∀ i, i < avs.length → RelP (immW w) w (avs.getD i .any) (cs.getD i undef)

theorem Match.append {w : World} {a a' : List AV} {c c' : List Value} (h : Match w a c) (h' : Match w a' c') : Match w (a ++ a') (c ++ c') := by
  obtain ⟨h1, h2⟩ := h
  obtain ⟨k1, k2⟩ := h'
  refine ⟨by simp [h1, k1], fun i hi => ?_⟩
  rw [getD_append, getD_append, ← h1]
  by_cases hlt : i < a.length
  · rw [if_pos hlt, if_pos hlt]; exact h2 i hlt
  · rw [if_neg hlt, if_neg hlt]
    exact k2 _ (by simp at hi; omega)
theorem Match.one {w : World} {a : AV} {u : Value} (h : RelP (immW w) w a u) : Match w [a] [u] := ⟨rfl, fun i hi => by
  match i, hi with
  | 0, _ => exact h⟩

theorem mapM_some {α β : Type} {f : α → Option β} : ∀ {l : List α} {r : List β}, l.mapM f = some r → F2 (fun a b => f a = some b) l r
  | [], r, h => by
    simp only [List.mapM_nil, Option.pure_def, Option.some.injEq] at h
    subst h; exact .nil
  | a :: l, r, h => by
    rw [List.mapM_cons] at h
    cases ha : f a with
    | none => simp [ha] at h
    | some b =>
      cases hl : l.mapM f with
      | none => simp [ha, hl] at h
      | some r' =>
        simp [ha, hl] at h
        subst h
        exact .cons ha (mapM_some hl)

theorem range_mapM {β : Type} {f : Nat → Option β} {n : Nat} {r : List β} (h : (List.range n).mapM f = some r) : r.length = n ∧ ∀ i, i < n → ∃ b, r[i]? = some b ∧ f i = some b := by
  have h2 := mapM_some h
  have key : ∀ {l : List Nat} {r : List β}, F2 (fun a b => f a = some b) l r → r.length = l.length ∧ ∀ (i a : Nat), l[i]? = some a → ∃ b, r[i]? = some b ∧ f a = some b := by
    intro l r h
    induction h with
    | nil => exact ⟨rfl, by simp⟩
    | cons h t ih =>
      refine ⟨by simp [ih.1], fun i a ha => ?_⟩
      cases i with
      | zero => simp only [List.getElem?_cons_zero, Option.some.injEq] at ha; subst ha; exact ⟨_, rfl, h⟩
      | succ i => simpa using ih.2 i a (by simpa using ha)
  obtain ⟨k1, k2⟩ := key h2
  refine ⟨by simpa using k1, fun i hi => k2 i i (by simp [hi])⟩

theorem cells?_spec {w : World} {a : Addr} {n : Nat} {cs : List Value} (h : w.cells? 0 a n = some cs) : cs.length = n ∧ ∀ j, j < n → w.cell? (a.add j) = some (cs.getD j undef) := by
  simp only [World.cells?, Nat.zero_le, if_true] at h
  obtain ⟨h1, h2⟩ := range_mapM h
  refine ⟨h1, fun j hj => ?_⟩
  obtain ⟨b, e1, e2⟩ := h2 j hj
  rw [e2, List.getD_eq_getElem?_getD, e1]; rfl

theorem cell?_spot {w : World} {a : Addr} {v : Value} (h : w.cell? a = some v) : a.spot = none ∧ a.block < w.heap.size := by
  unfold World.cell? at h
  split at h
  · rename_i c _ _ hh
    split at h
    · cases h
    · rename_i hs
      exact ⟨by simpa using hs, heap_lt hh⟩
  · cases h

theorem chunks_struct {P : Program} (cs : List Value) : ∀ (fs : List Field) (o : Nat), (∀ (j : Nat) f, fs[j]? = some f → f.offset = o + ((fs.take j).map fun f => P.cellsOf f.type).sum) →
    (fs.map fun f => (cs.drop f.offset).take (P.cellsOf f.type)).flatten = (cs.drop o).take ((fs.map fun f => P.cellsOf f.type).sum)
  | [], o, _ => by simp
  | f :: fs, o, h => by
    have h0 := h 0 f rfl
    simp at h0
    have ih := chunks_struct (P := P) cs fs (o + P.cellsOf f.type) fun j g hj => by
      have := h (j + 1) g (by simpa using hj)
      rw [this]
      simp [Nat.add_assoc]
    simp only [List.map_cons, List.flatten_cons, List.sum_cons, ih, h0]
    rw [List.take_add, List.drop_drop]

theorem chunks_array (cs : List Value) (m : Nat) : ∀ n, ((List.range n).map fun i => (cs.drop (i * m)).take m).flatten = cs.take (n * m)
  | 0 => by simp
  | n + 1 => by
    rw [List.range_succ, List.map_append, List.flatten_append, chunks_array cs m n, Nat.succ_mul, List.take_add]
    simp

theorem match_flatten {α : Type} {w : World} {g : α → List Value} {p : α → List AV → Prop} : ∀ {l : List α} {parts : List (List AV)}, F2 (fun a x => p a x ∧ Match w x (g a)) l parts → Match w parts.flatten (l.map g).flatten
  | _, _, .nil => ⟨rfl, by simp⟩
  | _, _, .cons h t => by
    simp only [List.flatten_cons, List.map_cons]
    exact h.2.append (match_flatten t)

theorem forall2_imp {α β : Type} {R S : α → β → Prop} (h : ∀ a b, R a b → S a b) : ∀ {l : List α} {r : List β}, F2 R l r → F2 S l r
  | _, _, .nil => .nil
  | _, _, .cons h1 t => .cons (h _ _ h1) (forall2_imp h t)
theorem forall2_len {α β : Type} {R : α → β → Prop} : ∀ {l : List α} {r : List β}, F2 R l r → l.length = r.length
  | _, _, .nil => rfl
  | _, _, .cons _ t => by simp [forall2_len t]
theorem forall2_right {α β : Type} {R : α → β → Prop} {Q : β → Prop} (h : ∀ a b, R a b → Q b) : ∀ {l : List α} {r : List β}, F2 R l r → ∀ b ∈ r, Q b
  | _, _, .nil, b, hb => by cases hb
  | _, _, .cons h1 t, b, hb => by
    rcases List.mem_cons.1 hb with rfl | hb
    · exact h _ _ h1
    · exact forall2_right h t b hb

theorem fit_of_trod {H : Type} {enc : TypeId × Value → H} {P : Program} {w : World} (hl : laidOutB P = true) : ∀ (n : Nat) (t : TypeId) (cs : List Value) (x : DataW H × List MemPlace), t < P.types.size →
    DataW.trod enc P w 0 (fun _ => true) true n t cs = some x → ∃ avs, Fit P n t avs ∧ Match w avs cs := by
  intro n
  induction n with
  | zero => intro t cs x _ h; simp [DataW.trod] at h
  | succ n ih =>
    intro t cs x ht h
    have hany : (match P.underlying t with | some .bool | some (.int _) | some .string | some (.slice _) | some (.struct _) | some (.array _ _) => False | _ => True) → ∃ avs, Fit P (n + 1) t avs ∧ Match w avs cs := fun hh => by
      refine ⟨List.replicate cs.length .any, ?_, by simp, fun i hi => ?_⟩
      · unfold Fit
        split <;> simp_all
      · have : (List.replicate cs.length AV.any).getD i .any = .any := by
          simp only [List.getD_eq_getElem?_getD]
          cases h : (List.replicate cs.length AV.any)[i]? with
          | none => rfl
          | some y => simp [List.getElem?_replicate] at h; simp [h.2]
        rw [this]; exact .any _
    by_cases hh : (match P.underlying t with | some .bool | some (.int _) | some .string | some (.slice _) | some (.struct _) | some (.array _ _) => False | _ => True)
    · exact hany hh
    cases hu : P.underlying t with
    | none => exact absurd (by rw [hu]; trivial) hh
    | some d =>
      rw [hu] at hh
      cases d <;> first | exact absurd trivial hh | skip
      case bool =>
        unfold DataW.trod at h
        rw [hu] at h
        rcases cs with _ | ⟨c, _ | ⟨c2, rest⟩⟩ <;> (try cases c) <;> simp at h
        exact ⟨[.bool _], by unfold Fit; rw [hu]; exact ⟨_, rfl⟩, .one (.bool _)⟩
      case int k =>
        unfold DataW.trod at h
        rw [hu] at h
        rcases cs with _ | ⟨c, _ | ⟨c2, rest⟩⟩ <;> (try cases c) <;> simp at h
        rename_i k' m
        obtain ⟨⟨rfl, h1⟩, _⟩ := h
        exact ⟨[.int k' m], by unfold Fit; rw [hu]; exact ⟨_, rfl, by simpa [Lit.wf] using h1⟩, .one (.int _ _)⟩
      case string =>
        unfold DataW.trod at h
        rw [hu] at h
        rcases cs with _ | ⟨c, _ | ⟨c2, rest⟩⟩ <;> (try cases c) <;> simp at h
        exact ⟨[.str _], by unfold Fit; rw [hu]; exact ⟨_, rfl⟩, .one (.str _)⟩
      case slice e =>
        have he := kid_slice hl ht hu
        unfold DataW.trod at h
        rw [hu] at h
        have hbad : ∀ c c2 rest, cs ≠ c :: c2 :: rest := fun c c2 rest e => by subst e; cases c <;> simp at h
        rcases cs with _ | ⟨c, _ | ⟨c2, rest⟩⟩
        · simp at h
        rotate_left
        · exact absurd rfl (hbad _ _ _)
        cases c <;> first | (simp at h; done) | skip
        rename_i a len cap
        cases a with
        | none =>
          rcases len with _ | len <;> rcases cap with _ | cap <;> first | (simp at h; done) | skip
          exact ⟨[.rsl (P.cellsOf e) []], by unfold Fit; rw [hu]; exact .inr ⟨[], rfl, by simp, by simp⟩, .one (.rnil _ _ _)⟩
        | some a =>
          dsimp only at h
          split at h
          · rename_i hb
            cases hm : (List.range len).mapM (fun i => (w.cells? 0 (a.add (i * P.cellsOf e)) (P.cellsOf e)).bind (DataW.trod enc P w 0 (fun _ => true) true n e)) with
            | none => rw [hm] at h; simp at h
            | some elems =>
              obtain ⟨k1, k2⟩ := range_mapM hm
              have k3 : ∀ i, i < len → ∃ avs cs', w.cells? 0 (a.add (i * P.cellsOf e)) (P.cellsOf e) = some cs' ∧ Fit P n e avs ∧ Match w avs cs' := fun i hi => by
                obtain ⟨b, _, e2⟩ := k2 i hi
                cases hc : w.cells? 0 (a.add (i * P.cellsOf e)) (P.cellsOf e) with
                | none => rw [hc] at e2; simp at e2
                | some cs' =>
                  rw [hc] at e2
                  obtain ⟨avs, h1, h2⟩ := ih e cs' b he e2
                  exact ⟨avs, cs', rfl, h1, h2⟩
              classical
              let F : Nat → List AV := fun i => if hi : i < len then Classical.choose (k3 i hi) else []
              let es := (List.range len).map F
              have hlen : es.length = len := by simp [es]
              have hget : ∀ i, i < len → es.getD i [] = F i := fun i hi => by simp [es, List.getD_eq_getElem?_getD, hi]
              have hF : ∀ i, i < len → ∃ cs', w.cells? 0 (a.add (i * P.cellsOf e)) (P.cellsOf e) = some cs' ∧ Fit P n e (F i) ∧ Match w (F i) cs' := fun i hi => by
                have := Classical.choose_spec (k3 i hi)
                simp only [F, dif_pos hi]
                exact this
              have hes : ∀ x ∈ es, x.length = P.cellsOf e ∧ Fit P n e x := fun x hx => by
                simp only [es, List.mem_map, List.mem_range] at hx
                obtain ⟨i, hi, rfl⟩ := hx
                obtain ⟨cs', h1, h2, h3⟩ := hF i hi
                exact ⟨h3.1.trans (cells?_spec h1).1, h2⟩
              rcases Nat.eq_zero_or_pos (P.cellsOf e) with hz | hz
              · exact ⟨[.any], by unfold Fit; rw [hu]; exact .inl hz, .one (.any _)⟩
              refine ⟨[.rsl (P.cellsOf e) es], by unfold Fit; rw [hu]; exact .inr ⟨es, rfl, by rw [hlen]; omega, hes⟩, .one ?_⟩
              rcases Nat.eq_zero_or_pos len with h0 | h0
              · have : es = [] := List.length_eq_zero_iff.1 (by omega)
                rw [this, h0]; exact .rnil _ _ _
              · have hcell : ∀ i j, i < len → j < P.cellsOf e → ∃ v, w.cell? ((a.add (i * P.cellsOf e)).add j) = some v ∧ RelP (immW w) w ((es.getD i []).getD j .any) v := fun i j hi hj => by
                  obtain ⟨cs', h1, h2, h3⟩ := hF i hi
                  obtain ⟨g1, g2⟩ := cells?_spec h1
                  refine ⟨_, g2 j hj, ?_⟩
                  rw [hget i hi]
                  exact h3.2 j (by rw [h3.1, g1]; exact hj)
                obtain ⟨v0, g1, _⟩ := hcell 0 0 h0 hz
                simp only [Nat.zero_mul, Addr.add, if_true] at g1
                obtain ⟨hs, hblk⟩ := cell?_spot g1
                obtain ⟨b, off, sp⟩ := a
                simp only at hs
                subst hs
                have hadd : ∀ i j, ((⟨b, off, none⟩ : Addr).add (i * P.cellsOf e)).add j = ⟨b, off + i * P.cellsOf e + j, none⟩ := fun i j => by
                  simp only [Addr.add]
                  split <;> split <;> simp_all
                rw [← hlen]
                refine .rsl _ es b off cap (fun i j => (w.cell? ⟨b, off + i * P.cellsOf e + j, none⟩).getD undef) (by omega) ⟨hblk, fun h => h⟩ (fun x hx => (hes x hx).1) (fun i j hi hj => ?_) (fun i j hi hj => ?_)
                · obtain ⟨v, e1, _⟩ := hcell i j (by omega) hj
                  rw [hadd] at e1
                  simp [e1]
                · obtain ⟨v, e1, e2⟩ := hcell i j (by omega) hj
                  rw [hadd] at e1
                  simpa [e1] using e2
          · cases h
      case struct fs =>
        obtain ⟨hk1, hk2, hk3⟩ := kid_struct hl ht hu
        unfold DataW.trod at h
        rw [hu] at h
        dsimp only at h
        split at h
        · rename_i hlen
          cases hm : (fs.toList.mapM fun f => DataW.trod enc P w 0 (fun _ => true) true n f.type ((cs.drop f.offset).take (P.cellsOf f.type))) with
          | none => rw [hm] at h; simp at h
          | some xs =>
            have h2 := mapM_some hm
            have h3 : ∃ parts : List (List AV), F2 (fun (fl : Field) p => (p.length = P.cellsOf fl.type ∧ Fit P n fl.type p) ∧ Match w p ((cs.drop fl.offset).take (P.cellsOf fl.type))) fs.toList parts := by
              have hall : ∀ f ∈ fs.toList, f.type < P.types.size ∧ f.offset + P.cellsOf f.type ≤ cs.length := fun f hf => by
                refine ⟨hk1 f hf, ?_⟩
                obtain ⟨j, hj, rfl⟩ := List.mem_iff_getElem.1 hf
                have h5 := hk3 j fs.toList[j] (List.getElem?_eq_getElem hj)
                rw [h5, hlen, hk2]
                have h6 : (fs.toList.map fun f => P.cellsOf f.type).sum = ((fs.toList.take j).map fun f => P.cellsOf f.type).sum + ((fs.toList.drop j).map fun f => P.cellsOf f.type).sum := by
                  rw [← List.sum_append, ← List.map_append, List.take_append_drop]
                rw [h6, List.drop_eq_getElem_cons hj]
                simp
              clear hm h hk1 hk2 hk3
              generalize fs.toList = l at h2 hall
              induction h2 with
              | nil => exact ⟨[], .nil⟩
              | cons h1 t ih2 =>
                rename_i f y l' r'
                obtain ⟨parts, hp⟩ := ih2 fun f hf => hall f (List.mem_cons_of_mem _ hf)
                obtain ⟨g1, g2⟩ := hall f (List.mem_cons_self ..)
                obtain ⟨avs, k1, k2⟩ := ih _ _ _ g1 h1
                exact ⟨avs :: parts, .cons ⟨⟨by rw [k2.1]; simp; omega, k1⟩, k2⟩ hp⟩
            obtain ⟨parts, hp⟩ := h3
            refine ⟨parts.flatten, by unfold Fit; rw [hu]; exact ⟨parts, rfl, forall2_imp (fun _ _ h => h.1) hp⟩, ?_⟩
            have h4 := match_flatten hp
            rw [chunks_struct cs fs.toList 0 (fun j f hj => by simpa using hk3 j f hj)] at h4
            rw [← hk2, ← hlen] at h4
            simpa using h4
        · cases h
      case array m e =>
        obtain ⟨he, hsz⟩ := kid_array hl ht hu
        unfold DataW.trod at h
        rw [hu] at h
        dsimp only at h
        split at h
        · rename_i hlen
          cases hm : ((List.range m).mapM fun i => DataW.trod enc P w 0 (fun _ => true) true n e ((cs.drop (i * P.cellsOf e)).take (P.cellsOf e))) with
          | none => rw [hm] at h; simp at h
          | some xs =>
            have h2 := mapM_some hm
            have h3 : ∃ parts : List (List AV), F2 (fun (i : Nat) p => (p.length = P.cellsOf e ∧ Fit P n e p) ∧ Match w p ((cs.drop (i * P.cellsOf e)).take (P.cellsOf e))) (List.range m) parts := by
              have hall : ∀ i ∈ List.range m, (i + 1) * P.cellsOf e ≤ cs.length := fun i hi => by
                rw [hlen, hsz]
                exact Nat.mul_le_mul_right _ (by have := List.mem_range.1 hi; omega)
              clear hm h hsz
              generalize List.range m = l at h2 hall
              induction h2 with
              | nil => exact ⟨[], .nil⟩
              | cons h1 t ih2 =>
                rename_i i y l' r'
                obtain ⟨parts, hp⟩ := ih2 fun f hf => hall f (List.mem_cons_of_mem _ hf)
                have g2 := hall i (List.mem_cons_self ..)
                obtain ⟨avs, k1, k2⟩ := ih _ _ _ he h1
                rw [Nat.succ_mul] at g2
                exact ⟨avs :: parts, .cons ⟨⟨by rw [k2.1]; simp; omega, k1⟩, k2⟩ hp⟩
            obtain ⟨parts, hp⟩ := h3
            refine ⟨parts.flatten, by unfold Fit; rw [hu]; exact ⟨parts, rfl, by have := forall2_len hp; simpa using this.symm, forall2_right (fun _ _ h => h.1) hp⟩, ?_⟩
            have h4 := match_flatten (g := fun i => (cs.drop (i * P.cellsOf e)).take (P.cellsOf e)) hp
            rw [chunks_array, ← hsz, ← hlen] at h4
            simpa using h4
        · cases h

end Go.AM

/- A law's contract out of a contract over pure trees. -/
namespace Go.AM
open Go.RowKit Go.WideShapes Go.ChangeShapes

def aggT (P : Program) (t : TypeId) : Bool :=
  match P.underlying t with
  | some (.struct _) | some (.array _ _) => true
  | _ => false
def supT (P : Program) (t : TypeId) : Bool :=
  match P.underlying t with
  | some .bool | some (.int _) | some .string | some (.slice _) | some (.struct _) | some (.array _ _) => true
  | _ => false
def argAV (P : Program) (t : TypeId) (avs : List AV) : AV := if aggT P t then .agg avs else avs.getD 0 .any
def argsAV (P : Program) : List TypeId → List (List AV) → List AV
  | t :: ts, a :: avs => argAV P t a :: argsAV P ts avs
  | _, _ => []

theorem match_arg {P : Program} {w : World} {t : TypeId} {v : Value} {avs : List AV} {base : Nat} (hs : supT P t = true) (hok : Value.okWide P w .any base t v) (h : Match w avs v.cells.toList) : RelP (immW w) w (argAV P t avs) v := by
  have hone : (∀ cs, v ≠ .agg cs) → aggT P t = false → RelP (immW w) w (argAV P t avs) v := fun hv ha => by
    have hc : v.cells.toList = [v] := by
      cases v <;> first | rfl | exact absurd rfl (hv _)
    rw [hc] at h
    unfold argAV
    rw [ha]
    exact h.2 0 (by rw [h.1]; simp)
  have hagg : (∃ cs, v = .agg cs) → aggT P t = true → RelP (immW w) w (argAV P t avs) v := fun ⟨cs, e⟩ ha => by
    subst e
    unfold argAV
    rw [ha]
    obtain ⟨l⟩ := cs
    exact .agg _ _ h.1 h.2
  cases hu : P.underlying t with
  | none => simp [supT, hu] at hs
  | some d =>
    cases d <;> first | (simp [supT, hu] at hs; done) | skip
    case bool => obtain ⟨b, rfl⟩ := okWide_bool hu hok; exact hone (by simp) (by simp [aggT, hu])
    case int => obtain ⟨b, rfl⟩ := okWide_int hu hok; exact hone (by simp) (by simp [aggT, hu])
    case string => obtain ⟨b, rfl⟩ := okWide_string hu hok; exact hone (by simp) (by simp [aggT, hu])
    case slice => obtain ⟨b, _, _, rfl⟩ := okWide_slice hu hok; exact hone (by simp) (by simp [aggT, hu])
    case struct => obtain ⟨cs, rfl, _⟩ := okWide_struct hu hok; exact hagg ⟨_, rfl⟩ (by simp [aggT, hu])
    case array =>
      unfold Value.okWide at hok
      rw [hu] at hok
      obtain ⟨cs, rfl, _⟩ := hok
      exact hagg ⟨_, rfl⟩ (by simp [aggT, hu])

theorem args_match {H : Type} {enc : TypeId × Value → H} {P : Program} {w : World} {base : Nat} (hl : laidOutB P = true) : ∀ {ts : List TypeId} {vs : List Value} {ds : List (DataW H)} {ps : List MemPlace}, (∀ t ∈ ts, t < P.types.size ∧ supT P t = true) →
    (∀ (j : Nat) t v, ts[j]? = some t → vs[j]? = some v → Value.okWide P w .any base t v) → DataW.TrodAll enc P w 0 (fun _ => true) true ts vs ds ps →
    ∃ ass, F2 (fun t avs => ∃ n, Fit P n t avs) ts ass ∧ (argsAV P ts ass).length = vs.length ∧ ∀ i, i < vs.length → RelP (immW w) w ((argsAV P ts ass).getD i .any) (vs.getD i undef)
  | [], vs, ds, ps, _, _, h => by
    obtain ⟨rfl, _, _⟩ := trodAll_nil h
    exact ⟨[], .nil, rfl, by simp⟩
  | t :: ts, vs, ds, ps, hts, hv, h => by
    obtain ⟨v, vs', d, ds', p, q, rfl, rfl, rfl, ⟨n, h1⟩, h2⟩ := trodAll_cons h
    obtain ⟨avs, k1, k2⟩ := fit_of_trod hl n t _ _ (hts t (List.mem_cons_self ..)).1 h1
    obtain ⟨ass, j1, j2, j3⟩ := args_match hl (fun t ht => hts t (List.mem_cons_of_mem _ ht)) (fun j t v e1 e2 => hv (j + 1) t v (by simpa using e1) (by simpa using e2)) h2
    refine ⟨avs :: ass, .cons ⟨n, k1⟩ j1, by simp [argsAV, j2], fun i hi => ?_⟩
    cases i with
    | zero => simpa [argsAV] using match_arg (hts t (List.mem_cons_self ..)).2 (hv 0 t v rfl rfl) k2
    | succ i => simpa [argsAV] using j3 i (by simpa using hi)

theorem Ext.below {w w' : World} (h : Ext (fun _ => False) w w') : Below w.heap.size w w' := ⟨h.os, h.tape, h.output, h.size, fun k hk => h.block k hk fun e => e⟩

theorem trodAll_below {H : Type} {enc : TypeId × Value → H} {P : Program} {W W' : World} (hl : laidOutB P = true) (hb : Below W.heap.size W W') {sp : Nat → Bool} : ∀ {ts : List TypeId} {vs : List Value} {ds : List (DataW H)} {ps : List MemPlace},
    (∀ t ∈ ts, t < P.types.size ∧ P.readableRec t = true) → DataW.TrodAll enc P W 0 (fun _ => true) true ts vs ds ps → (∀ p ∈ ps, p.block < W.heap.size ∧ sp p.block = true) → DataW.TrodAll enc P W' 0 sp true ts vs ds ps
  | [], vs, ds, ps, _, h, _ => by
    obtain ⟨rfl, rfl, rfl⟩ := trodAll_nil h
    rfl
  | t :: ts, vs, ds, ps, hts, h, hp => by
    obtain ⟨v, vs', d, ds', p, q, rfl, rfl, rfl, h1, h2⟩ := trodAll_cons h
    obtain ⟨g1, g2⟩ := hts t (List.mem_cons_self ..)
    exact ⟨p, q, WideElems.Trod_stays hl g2 g1 h1 (fun x hx => hb.same (hp x (List.mem_append_left _ hx)).1) (fun x hx => (hp x (List.mem_append_left _ hx)).2),
      trodAll_below hl hb (fun t ht => hts t (List.mem_cons_of_mem _ ht)) h2 (fun x hx => hp x (List.mem_append_right _ hx)), rfl⟩

theorem trodAll_len {H : Type} {enc : TypeId × Value → H} {P : Program} {w : World} {b : Nat} {sp : Nat → Bool} {hd : Bool} : ∀ {ts : List TypeId} {vs : List Value} {ds : List (DataW H)} {ps : List MemPlace}, DataW.TrodAll enc P w b sp hd ts vs ds ps → vs.length = ts.length ∧ ds.length = ts.length
  | [], vs, ds, ps, h => by
    obtain ⟨rfl, rfl, rfl⟩ := trodAll_nil h
    exact ⟨rfl, rfl⟩
  | t :: ts, vs, ds, ps, h => by
    obtain ⟨v, vs', d, ds', p, q, rfl, rfl, rfl, _, h2⟩ := trodAll_cons h
    have := trodAll_len h2
    exact ⟨by simp [this.1], by simp [this.2]⟩

/-- What the form asks of a law's call, out of a contract over pure trees. -/
theorem law_contract {H : Type} {enc : TypeId × Value → H} {P : Program} {fn : Func} {f : FuncId} {s : ChangeSpec} (hl : laidOutB P = true) {ts : List TypeId} {T : TypeId} (hps : fn.params.toList = ts) (hrs : fn.resultTypes = #[T]) (hT : P.underlying T = some .bool)
    (hts : ts.all (fun t => decide (t < P.types.size) && supT P t && P.readableRec t) = true) (hvars : s.vars = []) (hs : ∀ ds : List (DataW H), ds.length = ts.length → s.fn H ds = { results := [.lit (.bool true)], args := ds })
    (hread : ∀ ass, F2 (fun t avs => ∃ n, Fit P n t avs) ts ass → Reads P f false (argsAV P ts ass) (.bool true))
    {W : World} {base : Nat} {args : Array Value} {ds gs : List (DataW H)} {before : List MemPlace} (hval : ∀ (j : Nat) t v, fn.params[j]? = some t → args[j]? = some v → Value.okWide P W .any base t v)
    (hW : DataW.Whole enc P fn.params.toList s.vars false W args.toList ds gs before) (hgl : GL (immF W fun _ => False) W) :
    Calls P f args W fun e W' => ∃ v, e = .returned v ∧ s.post enc P fn false true false false W args v W' := by
  have hts' : ∀ t ∈ ts, t < P.types.size ∧ supT P t = true ∧ P.readableRec t = true := fun t ht => by
    have := List.all_eq_true.1 hts t ht
    simpa [and_assoc] using this
  have hW' := hW
  obtain ⟨p, q, hA, hV, rfl, hfz, hnd⟩ := hW
  rw [hvars] at hV
  obtain ⟨rfl, rfl⟩ := trodVars_none hV
  rw [hps] at hA
  obtain ⟨hl1, hl2⟩ := trodAll_len hA
  obtain ⟨ass, j1, j2, j3⟩ := args_match hl (fun t ht => ⟨(hts' t ht).1, (hts' t ht).2.1⟩) (fun j t v e1 e2 => hval j t v (by rw [← hps] at e1; simpa using e1) (by simpa using e2)) hA
  have hc := hread ass j1 W (fun _ => False) args.toList (fun _ h => h.elim) hgl j2.symm (fun i hi => j3 i (by omega))
  rw [show args.toList.toArray = args by simp] at hc
  refine hc.mono fun e W' ⟨u, h1, h2, h3⟩ => ⟨u, h1, ?_⟩
  have hu : u = .bool true := by cases h3; rfl
  subst hu
  have hb := h2.below
  have hlt : ∀ x ∈ p, x.block < W.heap.size := fun x hx => hW'.lt x (by simpa using hx)
  have hsf := hs ds hl2
  have hres : ∀ (b : Nat) (sp : Nat → Bool) (hd : Bool), DataW.TrodAll enc P W' b sp hd fn.resultTypes.toList ((Value.bool true).resultList fn.resultTypes.size) (s.fn H (ds ++ [])).results [] := fun b sp hd => by
    rw [hrs, List.append_nil, hsf]
    exact trodAll_mk1 (shut_bool hT true)
  have hargs : ∀ sp : Nat → Bool, (∀ x ∈ p, sp x.block = true) → DataW.TrodAll enc P W' 0 sp true fn.params.toList args.toList (s.fn H (ds ++ [])).args p := fun sp hsp => by
    rw [List.append_nil, hsf, hps]
    exact trodAll_below hl hb (fun t ht => ⟨(hts' t ht).1, (hts' t ht).2.2⟩) hA fun x hx => ⟨hlt x hx, hsp x hx⟩
  have hvs : ∀ sp : Nat → Bool, DataW.TrodVars enc P W' sp s.vars (s.fn H (ds ++ [])).vars [] := fun sp => by
    rw [List.append_nil, hsf, hvars]; rfl
  refine ⟨ds, [], p ++ [], [], p, [], hW', hres _ _ _, hargs _ (fun x hx => by simpa using hlt x hx), hvs _, World.keptBut_mono (fun x hx => ⟨hx, ?_⟩) (hb.frame (· ∈ p ++ [])), fun _ => ?_⟩
  · simpa using hx
  · refine ⟨ok_one hrs rfl (okWide_bool_mk hT _), _, _, ([] ++ p) ++ [], ⟨[] ++ p, [], trodAll_append (hargs _ (fun _ _ => rfl)) (hres _ _ _), hvs _, rfl, ?_, ?_⟩, ?_⟩
    · intro b off hp
      have hin : MemPlace.cell b off ∈ p := by simpa using hp
      rw [hb.frozen (hlt _ hin)]
      exact hfz b off (by simpa using hin)
    · intro ha; cases ha
    · intro x hx _
      simpa using hx

end Go.AM

/- The shapes of arguments. -/
namespace Go.AM
theorem fit_int {P : Program} {t : TypeId} {k : IntKind} (hu : P.underlying t = some (.int k)) {f : Nat} {x : List AV} (h : Fit P f t x) : ∃ n, x = [.int k n] ∧ k.min ≤ n ∧ n ≤ k.max := by
  cases f with
  | zero => exact h.elim
  | succ f => unfold Fit at h; rw [hu] at h; exact h
theorem fit_slice {P : Program} {t e : TypeId} {m : Nat} (hu : P.underlying t = some (.slice e)) (hm : P.cellsOf e = m) (h0 : m ≠ 0) {f : Nat} {x : List AV} (h : Fit P f t x) : ∃ es f', x = [.rsl m es] ∧ es.length ≤ maxLen ∧ ∀ y ∈ es, Fit P f' e y := by
  cases f with
  | zero => exact h.elim
  | succ f =>
    unfold Fit at h; rw [hu] at h
    rcases h with h | ⟨es, h1, h2, h3⟩
    · exact absurd (hm ▸ h) h0
    · rw [hm] at h1; exact ⟨es, f, h1, h2, fun y hy => (h3 y hy).2⟩
theorem fit_array {P : Program} {t e : TypeId} {m : Nat} (hu : P.underlying t = some (.array m e)) {f : Nat} {x : List AV} (h : Fit P f t x) : ∃ f' parts, x = List.flatten parts ∧ parts.length = m ∧ ∀ p ∈ parts, Fit P f' e p := by
  cases f with
  | zero => exact h.elim
  | succ f =>
    unfold Fit at h; rw [hu] at h
    obtain ⟨parts, h1, h2, h3⟩ := h
    exact ⟨f, parts, h1, h2, fun p hp => (h3 p hp).2⟩
theorem F2.three {α β : Type} {R : α → β → Prop} {a b c : α} {l : List β} (h : F2 R [a, b, c] l) : ∃ x y z, l = [x, y, z] ∧ R a x ∧ R b y ∧ R c z := by
  cases h with | cons h1 t => cases t with | cons h2 t => cases t with | cons h3 t => cases t with | nil => exact ⟨_, _, _, rfl, h1, h2, h3⟩
theorem exists_mapP {α β : Type} {f : α → β} {p : α → Prop} : ∀ {l : List β}, (∀ x ∈ l, ∃ a, x = f a ∧ p a) → ∃ m : List α, l = m.map f ∧ ∀ a ∈ m, p a
  | [], _ => ⟨[], rfl, fun _ h => by cases h⟩
  | x :: l, h => by
    obtain ⟨a, rfl, ha⟩ := h x (List.mem_cons_self ..)
    obtain ⟨m, rfl, hm⟩ := exists_mapP fun y hy => h y (List.mem_cons_of_mem _ hy)
    exact ⟨a :: m, rfl, fun b hb => by rcases List.mem_cons.1 hb with rfl | hb; exact ha; exact hm b hb⟩
end Go.AM

/- The shapes of the matching laws' arguments. -/
namespace Go.AM
open Go.Proofs
theorem fit_pair {f : Nat} {x : List AV} (h : Fit Try.prog f 51 x) : ∃ p : Int × Int, x = pairV p := by
  obtain ⟨f', parts, rfl, hl, h2⟩ := fit_array Try.underlying51 h
  match parts, hl, h2 with
  | [a, b], _, h2 =>
    obtain ⟨i, rfl, _⟩ := fit_int Try.underlying3 (h2 a (by simp))
    obtain ⟨j, rfl, _⟩ := fit_int Try.underlying3 (h2 b (by simp))
    exact ⟨(i, j), rfl⟩
theorem fit_pairs {f : Nat} {x : List AV} (h : Fit Try.prog f 22 x) : ∃ ns : List (Int × Int), x = [.rsl 2 (ns.map pairV)] ∧ ns.length ≤ 9223372036854775807 := by
  obtain ⟨es, f2, rfl, h5, h6⟩ := fit_slice (m := 2) Try.underlying22 (by kernel_rfl) (by decide) h
  obtain ⟨ns, rfl, _⟩ := exists_mapP (f := pairV) (p := fun _ => True) fun y hy => by
    obtain ⟨p, e⟩ := fit_pair (h6 y hy)
    exact ⟨p, e, trivial⟩
  exact ⟨ns, rfl, by simpa [maxLen] using h5⟩
theorem gl_none {imm : Nat → Prop} {w : World} : GL imm w := fun g cs e => by cases e
end Go.AM

