/- Lemmas and contracts, part 5: an abstract machine over the model, and the functions that the statement reaches. -/
import Derived.Test.YtmnlkidfcnhhhaaRelationOrdersP4
set_option linter.unusedVariables false
set_option linter.unusedSimpArgs false
namespace Go.Proofs.R
open Go.AM Go
set_option maxRecDepth 100000
set_option maxHeartbeats 1000000
def longW (x : USet) : Bool := decide (20 < (x.W.length : Int))
def greatB (rs : List USet) : Bool := (decide (40 < (rs.length : Int)) && decide ((rs.length : Int) ≤ 512)) || decide (520 < (rs.length : Int)) || rs.any longW
def relC (rs : List USet) : List AV := [.rsl 2 (rs.map rowV)]
theorem g42_r (x : USet) (hx : x.W.length ≤ 9223372036854775807) : Reads Try.prog 42 false [.agg (rowV x)] (.bool (longW x)) := by
  unfold rowV
  refine Reads.body (rs := [.tmp 2]) Try.func42 rfl Try.ntmps42 rfl (by simp) ?_
  generalize hQr : retQ _ _ _ = Qr
  refine AW.seq fun K1 hK1 => ?_
  -- region 0
  refine AW.regionK 0 (fun _ => none) [1] [1] ?_
  simp only [go_sem, reduceIte, reduceCtorEq, Nat.reduceAdd, Nat.reduceMul, Nat.reduceEqDiff, Nat.reduceLT, Nat.reduceLeDiff, Nat.reduceSub, Nat.reducePow, Nat.reduceBEq, Int.reduceToNat, List.reduceReplicate]
  repeat with_reducible refine cj ?_ ?_
  all_goals try first | omega
  refine hK1 _ _ _ ?_; clear hK1
  refine AW.seq fun K2 hK2 => ?_
  -- region 1
  refine AW.regionK 0 (fun _ => none) [2] [] ?_
  simp only [go_sem, reduceIte, reduceCtorEq, Nat.reduceAdd, Nat.reduceMul, Nat.reduceEqDiff, Nat.reduceLT, Nat.reduceLeDiff, Nat.reduceSub, Nat.reducePow, Nat.reduceBEq, Int.reduceToNat, List.reduceReplicate]
  repeat with_reducible refine cj ?_ ?_
  all_goals try first | omega
  refine hK2 _ _ _ ?_; clear hK2
  refine AW.ret ?_
  rw [← hQr]
  simp only [go_sem, reduceIte, reduceCtorEq, Nat.reduceAdd, Nat.reduceMul, Nat.reduceEqDiff, Nat.reduceLT, Nat.reduceLeDiff, Nat.reduceSub, Nat.reducePow, Nat.reduceBEq, Int.reduceToNat, List.reduceReplicate]
  exact Wk.of_eq (by simp [longW])
theorem g59_r (rs : List USet) (hl : longR rs) : Reads Try.prog 59 false [.rsl 2 (rs.map rowV), .fn 42 []] (.int .i64 (ixf longW rs)) := by
  have hbp := fun x hxm => g42_r x (hl.2 x hxm)
  have hl1 := hl.1
  refine Reads.body (rs := [.tmp 4]) Try.func59 rfl Try.ntmps59 rfl (by simp) ?_
  generalize hQr : retQ _ _ _ = Qr
  refine AW.seq fun K1 hK1 => ?_
  -- region 0
  refine AW.regionK 0 (fun _ => none) [0, 1] [] ?_
  simp only [go_sem, reduceIte, reduceCtorEq, Nat.reduceAdd, Nat.reduceMul, Nat.reduceEqDiff, Nat.reduceLT, Nat.reduceLeDiff, Nat.reduceSub, Nat.reducePow, Nat.reduceBEq, Int.reduceToNat, List.reduceReplicate]
  repeat with_reducible refine cj ?_ ?_
  all_goals try first | omega
  refine hK1 _ _ _ ?_; clear hK1
  refine AW.seq fun K2 hK2 => ?_
  refine AW.seq fun K3 hK3 => ?_
  -- region 1
  refine AW.regionK 0 (fun _ => none) [0, 1, 7, 8] [] ?_
  simp only [go_sem, reduceIte, reduceCtorEq, Nat.reduceAdd, Nat.reduceMul, Nat.reduceEqDiff, Nat.reduceLT, Nat.reduceLeDiff, Nat.reduceSub, Nat.reducePow, Nat.reduceBEq, Int.reduceToNat, List.reduceReplicate]
  repeat with_reducible refine cj ?_ ?_
  all_goals try first | omega
  refine hK3 _ _ _ ?_; clear hK3
  refine AW.block ?_
  -- loop 1
  refine AW.loopE (fun mm ee ss kk => ∃ (j : Nat), rs.length - j = mm ∧ ee = [(0, .rsl 2 (rs.map rowV)), (1, .fn 42 []), (7, .int .i64 rs.length), (8, .int .i64 (j : Nat))] ∧ ss = [] ∧ (j ≤ rs.length ∧ (rs.take j).any longW = false)) ?_ ?_
  · refine ⟨_, 0, rfl, ?henv, ?hstore, ?hst⟩
    case henv =>
      repeat' (first | rfl | refine env_cons ?_ ?_ | refine st_cons ?_ ?_ ?_ ?_ | refine int_eq ?_ | refine bool_eq ?_ | refine rsl_eq ?_ | refine osl_eq ?_ | refine sl_eq ?_ ?_ ?_ | refine ptr_eq ?_ ?_ ?_ | refine agg_eq ?_ | refine es_cons ?_ ?_ | refine row_cons ?_ ?_)
      all_goals (first | (simp; done) | omega | (simp; omega))
    case hstore =>
      repeat' (first | rfl | refine env_cons ?_ ?_ | refine st_cons ?_ ?_ ?_ ?_ | refine int_eq ?_ | refine bool_eq ?_ | refine rsl_eq ?_ | refine osl_eq ?_ | refine sl_eq ?_ ?_ ?_ | refine ptr_eq ?_ ?_ ?_ | refine agg_eq ?_ | refine es_cons ?_ ?_ | refine row_cons ?_ ?_)
      all_goals (first | (simp; done) | omega | (simp; omega))
    case hst =>
      first | trivial | omega | (simp; done) | (simp; omega)
  rintro mm ee ss kk ⟨j, rfl, rfl, rfl, hI⟩
  generalize hQl1 : thenQ _ _ = Ql1
  obtain ⟨hj, hall⟩ := hI
  refine AW.seq fun K4 hK4 => ?_
  -- region 2
  refine AW.regionK 0 (fun _ => none) [0, 1, 7, 8, 9] [] ?_
  simp only [go_sem, reduceIte, reduceCtorEq, Nat.reduceAdd, Nat.reduceMul, Nat.reduceEqDiff, Nat.reduceLT, Nat.reduceLeDiff, Nat.reduceSub, Nat.reducePow, Nat.reduceBEq, Int.reduceToNat, List.reduceReplicate]
  repeat with_reducible refine cj ?_ ?_
  all_goals try first | omega
  refine hK4 _ _ _ ?_; clear hK4
  refine AW.seq fun K5 hK5 => ?_
  -- cond 1
  refine AW.cond rfl (by simp only [go_sem, reduceIte, reduceCtorEq, Nat.reduceAdd, Nat.reduceMul, Nat.reduceEqDiff, Nat.reduceLT, Nat.reduceLeDiff, Nat.reduceSub, Nat.reducePow, Nat.reduceBEq, Int.reduceToNat, List.reduceReplicate]) ?_ ?_
  · intro hb
    try simp only [hB, decide_eq_true_eq, decide_eq_false_iff_not] at hb
    obtain ⟨x, hx⟩ := getI (l := rs) (j := j) (by omega)
    have hgx := getV (f := rowV) hx
    have hats := any_take_succ (p := longW) hx
    have hbx := hbp x (List.mem_of_getElem? hx)
    refine AW.skip ?_
    refine hK5 _ _ _ ?_; clear hK5
    refine AW.seq fun K6 hK6 => ?_
    refine AW.block ?_
    refine AW.seq fun K7 hK7 => ?_
    -- region 3
    refine AW.regionK 0 (fun _ => none) [0, 1, 5, 7, 8] [] ?_
    simp only [go_sem, reduceIte, reduceCtorEq, Nat.reduceAdd, Nat.reduceMul, Nat.reduceEqDiff, Nat.reduceLT, Nat.reduceLeDiff, Nat.reduceSub, Nat.reducePow, Nat.reduceBEq, Int.reduceToNat, List.reduceReplicate]
    repeat with_reducible refine cj ?_ ?_
    all_goals try first | omega
    refine hK7 _ _ _ ?_; clear hK7
    refine AW.seq fun K8 hK8 => ?_
    -- region 4
    refine AW.regionK 0 (fun ii => if ii = 5 then some (.reads false (.bool (longW x))) else none) [0, 1, 5, 7, 8, 16] [] ?_
    simp only [go_sem, reduceIte, reduceCtorEq, Nat.reduceAdd, Nat.reduceMul, Nat.reduceEqDiff, Nat.reduceLT, Nat.reduceLeDiff, Nat.reduceSub, Nat.reducePow, Nat.reduceBEq, Int.reduceToNat, List.reduceReplicate, hgx, rowV]
    repeat with_reducible refine cj ?_ ?_
    all_goals try first | (exact hbx) | omega | exact ent (by kernel_rfl)
    refine hK8 _ _ _ ?_; clear hK8
    -- cond 2
    refine AW.cond rfl (by simp only [go_sem, reduceIte, reduceCtorEq, Nat.reduceAdd, Nat.reduceMul, Nat.reduceEqDiff, Nat.reduceLT, Nat.reduceLeDiff, Nat.reduceSub, Nat.reducePow, Nat.reduceBEq, Int.reduceToNat, List.reduceReplicate]) ?_ ?_
    · intro hb
      try simp only [hB, decide_eq_true_eq, decide_eq_false_iff_not] at hb
      refine AW.seq fun K9 hK9 => ?_
      -- region 5
      refine AW.regionK 0 (fun _ => none) [4] [] ?_
      simp only [go_sem, reduceIte, reduceCtorEq, Nat.reduceAdd, Nat.reduceMul, Nat.reduceEqDiff, Nat.reduceLT, Nat.reduceLeDiff, Nat.reduceSub, Nat.reducePow, Nat.reduceBEq, Int.reduceToNat, List.reduceReplicate]
      repeat with_reducible refine cj ?_ ?_
      all_goals try first | omega
      refine hK9 _ _ _ ?_; clear hK9
      refine AW.ret ?_
      rw [← hQl1]
      rw [← hQr]
      simp only [go_sem, reduceIte, reduceCtorEq, Nat.reduceAdd, Nat.reduceMul, Nat.reduceEqDiff, Nat.reduceLT, Nat.reduceLeDiff, Nat.reduceSub, Nat.reducePow, Nat.reduceBEq, Int.reduceToNat, List.reduceReplicate]
      exact Wk.of_eq (by rw [ixf_at hx hb hall])
    · intro hb
      try simp only [hB, decide_eq_true_eq, decide_eq_false_iff_not] at hb
      refine AW.skip ?_
      refine hK6 _ _ _ ?_; clear hK6
      -- region 6
      refine AW.regionK 0 (fun _ => none) [0, 1, 7, 8] [] ?_
      simp only [go_sem, reduceIte, reduceCtorEq, Nat.reduceAdd, Nat.reduceMul, Nat.reduceEqDiff, Nat.reduceLT, Nat.reduceLeDiff, Nat.reduceSub, Nat.reducePow, Nat.reduceBEq, Int.reduceToNat, List.reduceReplicate]
      repeat with_reducible refine cj ?_ ?_
      all_goals try first | omega
      rw [← hQl1]
      change Exists _
      refine ⟨_, ?hm, j + 1, rfl, ?henv, ?hstore, ?hst⟩
      case henv =>
        repeat' (first | rfl | refine env_cons ?_ ?_ | refine st_cons ?_ ?_ ?_ ?_ | refine int_eq ?_ | refine bool_eq ?_ | refine rsl_eq ?_ | refine osl_eq ?_ | refine sl_eq ?_ ?_ ?_ | refine ptr_eq ?_ ?_ ?_ | refine agg_eq ?_ | refine es_cons ?_ ?_ | refine row_cons ?_ ?_)
        all_goals (first | (simp; done) | omega | (simp; omega))
      case hstore =>
        repeat' (first | rfl | refine env_cons ?_ ?_ | refine st_cons ?_ ?_ ?_ ?_ | refine int_eq ?_ | refine bool_eq ?_ | refine rsl_eq ?_ | refine osl_eq ?_ | refine sl_eq ?_ ?_ ?_ | refine ptr_eq ?_ ?_ ?_ | refine agg_eq ?_ | refine es_cons ?_ ?_ | refine row_cons ?_ ?_)
        all_goals (first | (simp; done) | omega | (simp; omega))
      case hst =>
        exact ⟨by omega, by rw [hats, hall, hb]; rfl⟩
      case hm => omega
  · intro hb
    try simp only [hB, decide_eq_true_eq, decide_eq_false_iff_not] at hb
    refine AW.keep [] [] ?_
    try simp only [go_sem, reduceIte, reduceCtorEq, Nat.reduceAdd, Nat.reduceMul, Nat.reduceEqDiff, Nat.reduceLT, Nat.reduceLeDiff, Nat.reduceSub, Nat.reducePow, Nat.reduceBEq, Int.reduceToNat, List.reduceReplicate]
    refine AW.exit ?_
    rw [← hQl1]
    refine hK2 _ _ _ ?_; clear hK2
    refine AW.seq fun K10 hK10 => ?_
    -- region 7
    refine AW.regionK 0 (fun _ => none) [4] [] ?_
    simp only [go_sem, reduceIte, reduceCtorEq, Nat.reduceAdd, Nat.reduceMul, Nat.reduceEqDiff, Nat.reduceLT, Nat.reduceLeDiff, Nat.reduceSub, Nat.reducePow, Nat.reduceBEq, Int.reduceToNat, List.reduceReplicate]
    repeat with_reducible refine cj ?_ ?_
    all_goals try first | omega
    refine hK10 _ _ _ ?_; clear hK10
    refine AW.ret ?_
    rw [← hQr]
    simp only [go_sem, reduceIte, reduceCtorEq, Nat.reduceAdd, Nat.reduceMul, Nat.reduceEqDiff, Nat.reduceLT, Nat.reduceLeDiff, Nat.reduceSub, Nat.reducePow, Nat.reduceBEq, Int.reduceToNat, List.reduceReplicate]
    exact Wk.of_eq (by rw [List.take_of_length_le (by omega)] at hall; rw [ixf_none hall])
theorem g41_r (rs : List USet) (hl : longR rs) : Reads Try.prog 41 false [.rsl 2 (rs.map rowV), .fn 42 []] (.bool (rs.any longW)) := by
  have h := g59_r rs hl
  have hge := ixf_ge longW rs
  refine Reads.body (rs := [.tmp 4]) Try.func41 rfl Try.ntmps41 rfl (by simp) ?_
  generalize hQr : retQ _ _ _ = Qr
  refine AW.seq fun K1 hK1 => ?_
  -- region 0
  refine AW.regionK 0 (fun _ => none) [0, 1] [] ?_
  simp only [go_sem, reduceIte, reduceCtorEq, Nat.reduceAdd, Nat.reduceMul, Nat.reduceEqDiff, Nat.reduceLT, Nat.reduceLeDiff, Nat.reduceSub, Nat.reducePow, Nat.reduceBEq, Int.reduceToNat, List.reduceReplicate]
  repeat with_reducible refine cj ?_ ?_
  all_goals try first | omega
  refine hK1 _ _ _ ?_; clear hK1
  refine AW.seq fun K2 hK2 => ?_
  -- region 1
  refine AW.regionK 0 (fun ii => if ii = 2 then some (.reads false (.int .i64 (ixf longW rs))) else none) [4] [] ?_
  simp only [go_sem, reduceIte, reduceCtorEq, Nat.reduceAdd, Nat.reduceMul, Nat.reduceEqDiff, Nat.reduceLT, Nat.reduceLeDiff, Nat.reduceSub, Nat.reducePow, Nat.reduceBEq, Int.reduceToNat, List.reduceReplicate]
  repeat with_reducible refine cj ?_ ?_
  all_goals try first | (exact h) | omega | exact ent (by kernel_rfl)
  refine hK2 _ _ _ ?_; clear hK2
  refine AW.ret ?_
  rw [← hQr]
  simp only [go_sem, reduceIte, reduceCtorEq, Nat.reduceAdd, Nat.reduceMul, Nat.reduceEqDiff, Nat.reduceLT, Nat.reduceLeDiff, Nat.reduceSub, Nat.reducePow, Nat.reduceBEq, Int.reduceToNat, List.reduceReplicate]
  exact Wk.of_eq (by rw [hge])
theorem g40_r (rs : List USet) (hl : longR rs) : Reads Try.prog 40 false [relV rs] (.bool (greatB rs)) := by
  have h := g41_r rs hl
  have hl1 := hl.1
  unfold relV
  refine Reads.body (rs := [.tmp 2]) Try.func40 rfl Try.ntmps40 rfl (by simp) ?_
  generalize hQr : retQ _ _ _ = Qr
  refine AW.seq fun K1 hK1 => ?_
  -- region 0
  refine AW.regionK 0 (fun _ => none) [1] [1] ?_
  simp only [go_sem, reduceIte, reduceCtorEq, Nat.reduceAdd, Nat.reduceMul, Nat.reduceEqDiff, Nat.reduceLT, Nat.reduceLeDiff, Nat.reduceSub, Nat.reducePow, Nat.reduceBEq, Int.reduceToNat, List.reduceReplicate]
  repeat with_reducible refine cj ?_ ?_
  all_goals try first | omega
  refine hK1 _ _ _ ?_; clear hK1
  refine AW.seq fun K2 hK2 => ?_
  -- region 1
  refine AW.regionK 0 (fun ii => if ii = 19 then some (.reads false (.bool (rs.any longW))) else none) [2] [] ?_
  simp only [go_sem, reduceIte, reduceCtorEq, Nat.reduceAdd, Nat.reduceMul, Nat.reduceEqDiff, Nat.reduceLT, Nat.reduceLeDiff, Nat.reduceSub, Nat.reducePow, Nat.reduceBEq, Int.reduceToNat, List.reduceReplicate]
  repeat with_reducible refine cj ?_ ?_
  all_goals try first | ((intro hh; exact ⟨hh, h⟩)) | (intros; (repeat' apply And.intro) <;> first | assumption | ((intro hh; exact ⟨hh, h⟩))) | omega | exact ent (by kernel_rfl) | (intro hgd; exact absurd hgd (by decide)) | rfl | (simp only [go_sem, reduceIte, reduceCtorEq, Nat.reduceAdd, Nat.reduceMul, Nat.reduceEqDiff, Nat.reduceLT, Nat.reduceLeDiff, Nat.reduceSub, Nat.reducePow, Nat.reduceBEq, Int.reduceToNat, List.reduceReplicate]; done) | (intro _hgd; simp_all [go_sem]; done)
  refine hK2 _ _ _ ?_; clear hK2
  refine AW.ret ?_
  rw [← hQr]
  simp only [go_sem, reduceIte, reduceCtorEq, Nat.reduceAdd, Nat.reduceMul, Nat.reduceEqDiff, Nat.reduceLT, Nat.reduceLeDiff, Nat.reduceSub, Nat.reducePow, Nat.reduceBEq, Int.reduceToNat, List.reduceReplicate]
  exact Wk.of_eq (by unfold greatB; simp)
theorem g58_r (R : List (List USet)) (hR : R.length ≤ 9223372036854775807) (hl : ∀ rs ∈ R, longR rs) : Reads Try.prog 58 false [.rsl 1 (R.map relC), .fn 40 []] (.int .i64 (ixf greatB R)) := by
  have hbp := fun x hxm => g40_r x (hl x hxm)
  unfold relV at hbp
  refine Reads.body (rs := [.tmp 4]) Try.func58 rfl Try.ntmps58 rfl (by simp) ?_
  generalize hQr : retQ _ _ _ = Qr
  refine AW.seq fun K1 hK1 => ?_
  -- region 0
  refine AW.regionK 0 (fun _ => none) [0, 1] [] ?_
  simp only [go_sem, reduceIte, reduceCtorEq, Nat.reduceAdd, Nat.reduceMul, Nat.reduceEqDiff, Nat.reduceLT, Nat.reduceLeDiff, Nat.reduceSub, Nat.reducePow, Nat.reduceBEq, Int.reduceToNat, List.reduceReplicate]
  repeat with_reducible refine cj ?_ ?_
  all_goals try first | omega
  refine hK1 _ _ _ ?_; clear hK1
  refine AW.seq fun K2 hK2 => ?_
  refine AW.seq fun K3 hK3 => ?_
  -- region 1
  refine AW.regionK 0 (fun _ => none) [0, 1, 7, 8] [] ?_
  simp only [go_sem, reduceIte, reduceCtorEq, Nat.reduceAdd, Nat.reduceMul, Nat.reduceEqDiff, Nat.reduceLT, Nat.reduceLeDiff, Nat.reduceSub, Nat.reducePow, Nat.reduceBEq, Int.reduceToNat, List.reduceReplicate]
  repeat with_reducible refine cj ?_ ?_
  all_goals try first | omega
  refine hK3 _ _ _ ?_; clear hK3
  refine AW.block ?_
  -- loop 1
  refine AW.loopE (fun mm ee ss kk => ∃ (j : Nat), R.length - j = mm ∧ ee = [(0, .rsl 1 (R.map relC)), (1, .fn 40 []), (7, .int .i64 R.length), (8, .int .i64 (j : Nat))] ∧ ss = [] ∧ (j ≤ R.length ∧ (R.take j).any greatB = false)) ?_ ?_
  · refine ⟨_, 0, rfl, ?henv, ?hstore, ?hst⟩
    case henv =>
      repeat' (first | rfl | refine env_cons ?_ ?_ | refine st_cons ?_ ?_ ?_ ?_ | refine int_eq ?_ | refine bool_eq ?_ | refine rsl_eq ?_ | refine osl_eq ?_ | refine sl_eq ?_ ?_ ?_ | refine ptr_eq ?_ ?_ ?_ | refine agg_eq ?_ | refine es_cons ?_ ?_ | refine row_cons ?_ ?_)
      all_goals (first | (simp; done) | omega | (simp; omega))
    case hstore =>
      repeat' (first | rfl | refine env_cons ?_ ?_ | refine st_cons ?_ ?_ ?_ ?_ | refine int_eq ?_ | refine bool_eq ?_ | refine rsl_eq ?_ | refine osl_eq ?_ | refine sl_eq ?_ ?_ ?_ | refine ptr_eq ?_ ?_ ?_ | refine agg_eq ?_ | refine es_cons ?_ ?_ | refine row_cons ?_ ?_)
      all_goals (first | (simp; done) | omega | (simp; omega))
    case hst =>
      first | trivial | omega | (simp; done) | (simp; omega)
  rintro mm ee ss kk ⟨j, rfl, rfl, rfl, hI⟩
  generalize hQl1 : thenQ _ _ = Ql1
  obtain ⟨hj, hall⟩ := hI
  refine AW.seq fun K4 hK4 => ?_
  -- region 2
  refine AW.regionK 0 (fun _ => none) [0, 1, 7, 8, 9] [] ?_
  simp only [go_sem, reduceIte, reduceCtorEq, Nat.reduceAdd, Nat.reduceMul, Nat.reduceEqDiff, Nat.reduceLT, Nat.reduceLeDiff, Nat.reduceSub, Nat.reducePow, Nat.reduceBEq, Int.reduceToNat, List.reduceReplicate]
  repeat with_reducible refine cj ?_ ?_
  all_goals try first | omega
  refine hK4 _ _ _ ?_; clear hK4
  refine AW.seq fun K5 hK5 => ?_
  -- cond 1
  refine AW.cond rfl (by simp only [go_sem, reduceIte, reduceCtorEq, Nat.reduceAdd, Nat.reduceMul, Nat.reduceEqDiff, Nat.reduceLT, Nat.reduceLeDiff, Nat.reduceSub, Nat.reducePow, Nat.reduceBEq, Int.reduceToNat, List.reduceReplicate]) ?_ ?_
  · intro hb
    try simp only [hB, decide_eq_true_eq, decide_eq_false_iff_not] at hb
    obtain ⟨x, hx⟩ := getI (l := R) (j := j) (by omega)
    have hgx := getV (f := relC) hx
    have hats := any_take_succ (p := greatB) hx
    have hbx := hbp x (List.mem_of_getElem? hx)
    refine AW.skip ?_
    refine hK5 _ _ _ ?_; clear hK5
    refine AW.seq fun K6 hK6 => ?_
    refine AW.block ?_
    refine AW.seq fun K7 hK7 => ?_
    -- region 3
    refine AW.regionK 0 (fun _ => none) [0, 1, 5, 7, 8] [] ?_
    simp only [go_sem, reduceIte, reduceCtorEq, Nat.reduceAdd, Nat.reduceMul, Nat.reduceEqDiff, Nat.reduceLT, Nat.reduceLeDiff, Nat.reduceSub, Nat.reducePow, Nat.reduceBEq, Int.reduceToNat, List.reduceReplicate]
    repeat with_reducible refine cj ?_ ?_
    all_goals try first | omega
    refine hK7 _ _ _ ?_; clear hK7
    refine AW.seq fun K8 hK8 => ?_
    -- region 4
    refine AW.regionK 0 (fun ii => if ii = 5 then some (.reads false (.bool (greatB x))) else none) [0, 1, 5, 7, 8, 16] [] ?_
    simp only [go_sem, reduceIte, reduceCtorEq, Nat.reduceAdd, Nat.reduceMul, Nat.reduceEqDiff, Nat.reduceLT, Nat.reduceLeDiff, Nat.reduceSub, Nat.reducePow, Nat.reduceBEq, Int.reduceToNat, List.reduceReplicate, hgx, relC]
    repeat with_reducible refine cj ?_ ?_
    all_goals try first | (exact hbx) | omega | exact ent (by kernel_rfl)
    refine hK8 _ _ _ ?_; clear hK8
    -- cond 2
    refine AW.cond rfl (by simp only [go_sem, reduceIte, reduceCtorEq, Nat.reduceAdd, Nat.reduceMul, Nat.reduceEqDiff, Nat.reduceLT, Nat.reduceLeDiff, Nat.reduceSub, Nat.reducePow, Nat.reduceBEq, Int.reduceToNat, List.reduceReplicate]) ?_ ?_
    · intro hb
      try simp only [hB, decide_eq_true_eq, decide_eq_false_iff_not] at hb
      refine AW.seq fun K9 hK9 => ?_
      -- region 5
      refine AW.regionK 0 (fun _ => none) [4] [] ?_
      simp only [go_sem, reduceIte, reduceCtorEq, Nat.reduceAdd, Nat.reduceMul, Nat.reduceEqDiff, Nat.reduceLT, Nat.reduceLeDiff, Nat.reduceSub, Nat.reducePow, Nat.reduceBEq, Int.reduceToNat, List.reduceReplicate]
      repeat with_reducible refine cj ?_ ?_
      all_goals try first | omega
      refine hK9 _ _ _ ?_; clear hK9
      refine AW.ret ?_
      rw [← hQl1]
      rw [← hQr]
      simp only [go_sem, reduceIte, reduceCtorEq, Nat.reduceAdd, Nat.reduceMul, Nat.reduceEqDiff, Nat.reduceLT, Nat.reduceLeDiff, Nat.reduceSub, Nat.reducePow, Nat.reduceBEq, Int.reduceToNat, List.reduceReplicate]
      exact Wk.of_eq (by rw [ixf_at hx hb hall])
    · intro hb
      try simp only [hB, decide_eq_true_eq, decide_eq_false_iff_not] at hb
      refine AW.skip ?_
      refine hK6 _ _ _ ?_; clear hK6
      -- region 6
      refine AW.regionK 0 (fun _ => none) [0, 1, 7, 8] [] ?_
      simp only [go_sem, reduceIte, reduceCtorEq, Nat.reduceAdd, Nat.reduceMul, Nat.reduceEqDiff, Nat.reduceLT, Nat.reduceLeDiff, Nat.reduceSub, Nat.reducePow, Nat.reduceBEq, Int.reduceToNat, List.reduceReplicate]
      repeat with_reducible refine cj ?_ ?_
      all_goals try first | omega
      rw [← hQl1]
      change Exists _
      refine ⟨_, ?hm, j + 1, rfl, ?henv, ?hstore, ?hst⟩
      case henv =>
        repeat' (first | rfl | refine env_cons ?_ ?_ | refine st_cons ?_ ?_ ?_ ?_ | refine int_eq ?_ | refine bool_eq ?_ | refine rsl_eq ?_ | refine osl_eq ?_ | refine sl_eq ?_ ?_ ?_ | refine ptr_eq ?_ ?_ ?_ | refine agg_eq ?_ | refine es_cons ?_ ?_ | refine row_cons ?_ ?_)
        all_goals (first | (simp; done) | omega | (simp; omega))
      case hstore =>
        repeat' (first | rfl | refine env_cons ?_ ?_ | refine st_cons ?_ ?_ ?_ ?_ | refine int_eq ?_ | refine bool_eq ?_ | refine rsl_eq ?_ | refine osl_eq ?_ | refine sl_eq ?_ ?_ ?_ | refine ptr_eq ?_ ?_ ?_ | refine agg_eq ?_ | refine es_cons ?_ ?_ | refine row_cons ?_ ?_)
        all_goals (first | (simp; done) | omega | (simp; omega))
      case hst =>
        exact ⟨by omega, by rw [hats, hall, hb]; rfl⟩
      case hm => omega
  · intro hb
    try simp only [hB, decide_eq_true_eq, decide_eq_false_iff_not] at hb
    refine AW.keep [] [] ?_
    try simp only [go_sem, reduceIte, reduceCtorEq, Nat.reduceAdd, Nat.reduceMul, Nat.reduceEqDiff, Nat.reduceLT, Nat.reduceLeDiff, Nat.reduceSub, Nat.reducePow, Nat.reduceBEq, Int.reduceToNat, List.reduceReplicate]
    refine AW.exit ?_
    rw [← hQl1]
    refine hK2 _ _ _ ?_; clear hK2
    refine AW.seq fun K10 hK10 => ?_
    -- region 7
    refine AW.regionK 0 (fun _ => none) [4] [] ?_
    simp only [go_sem, reduceIte, reduceCtorEq, Nat.reduceAdd, Nat.reduceMul, Nat.reduceEqDiff, Nat.reduceLT, Nat.reduceLeDiff, Nat.reduceSub, Nat.reducePow, Nat.reduceBEq, Int.reduceToNat, List.reduceReplicate]
    repeat with_reducible refine cj ?_ ?_
    all_goals try first | omega
    refine hK10 _ _ _ ?_; clear hK10
    refine AW.ret ?_
    rw [← hQr]
    simp only [go_sem, reduceIte, reduceCtorEq, Nat.reduceAdd, Nat.reduceMul, Nat.reduceEqDiff, Nat.reduceLT, Nat.reduceLeDiff, Nat.reduceSub, Nat.reducePow, Nat.reduceBEq, Int.reduceToNat, List.reduceReplicate]
    exact Wk.of_eq (by rw [List.take_of_length_le (by omega)] at hall; rw [ixf_none hall])
theorem great_r (R : List (List USet)) (hR : R.length ≤ 9223372036854775807) (hl : ∀ rs ∈ R, longR rs) : Reads Try.prog 10 false [.rsl 1 (R.map relC)] (.bool (R.any greatB)) := by
  have h := g58_r R hR hl
  have hge := ixf_ge greatB R
  have hc : Reads Try.prog 39 false [.rsl 1 (R.map relC), .fn 40 []] (.bool (R.any greatB)) := by
    refine Reads.body (rs := [.tmp 4]) Try.func39 rfl Try.ntmps39 rfl (by simp) ?_
    generalize hQr : retQ _ _ _ = Qr
    refine AW.seq fun K1 hK1 => ?_
    -- region 0
    refine AW.regionK 0 (fun _ => none) [0, 1] [] ?_
    simp only [go_sem, reduceIte, reduceCtorEq, Nat.reduceAdd, Nat.reduceMul, Nat.reduceEqDiff, Nat.reduceLT, Nat.reduceLeDiff, Nat.reduceSub, Nat.reducePow, Nat.reduceBEq, Int.reduceToNat, List.reduceReplicate]
    repeat with_reducible refine cj ?_ ?_
    all_goals try first | omega
    refine hK1 _ _ _ ?_; clear hK1
    refine AW.seq fun K2 hK2 => ?_
    -- region 1
    refine AW.regionK 0 (fun ii => if ii = 2 then some (.reads false (.int .i64 (ixf greatB R))) else none) [4] [] ?_
    simp only [go_sem, reduceIte, reduceCtorEq, Nat.reduceAdd, Nat.reduceMul, Nat.reduceEqDiff, Nat.reduceLT, Nat.reduceLeDiff, Nat.reduceSub, Nat.reducePow, Nat.reduceBEq, Int.reduceToNat, List.reduceReplicate]
    repeat with_reducible refine cj ?_ ?_
    all_goals try first | (exact h) | omega | exact ent (by kernel_rfl)
    refine hK2 _ _ _ ?_; clear hK2
    refine AW.ret ?_
    rw [← hQr]
    simp only [go_sem, reduceIte, reduceCtorEq, Nat.reduceAdd, Nat.reduceMul, Nat.reduceEqDiff, Nat.reduceLT, Nat.reduceLeDiff, Nat.reduceSub, Nat.reducePow, Nat.reduceBEq, Int.reduceToNat, List.reduceReplicate]
    exact Wk.of_eq (by rw [hge])
  refine Reads.body (rs := [.tmp 2]) Try.func10 rfl Try.ntmps10 rfl (by simp) ?_
  generalize hQr : retQ _ _ _ = Qr
  refine AW.seq fun K1 hK1 => ?_
  -- region 0
  refine AW.regionK 0 (fun _ => none) [0] [] ?_
  simp only [go_sem, reduceIte, reduceCtorEq, Nat.reduceAdd, Nat.reduceMul, Nat.reduceEqDiff, Nat.reduceLT, Nat.reduceLeDiff, Nat.reduceSub, Nat.reducePow, Nat.reduceBEq, Int.reduceToNat, List.reduceReplicate]
  repeat with_reducible refine cj ?_ ?_
  all_goals try first | omega
  refine hK1 _ _ _ ?_; clear hK1
  refine AW.seq fun K2 hK2 => ?_
  -- region 1
  refine AW.regionK 0 (fun ii => if ii = 1 then some (.reads false (.bool (R.any greatB))) else none) [2] [] ?_
  simp only [go_sem, reduceIte, reduceCtorEq, Nat.reduceAdd, Nat.reduceMul, Nat.reduceEqDiff, Nat.reduceLT, Nat.reduceLeDiff, Nat.reduceSub, Nat.reducePow, Nat.reduceBEq, Int.reduceToNat, List.reduceReplicate]
  repeat with_reducible refine cj ?_ ?_
  all_goals try first | (exact hc) | omega | exact ent (by kernel_rfl)
  refine hK2 _ _ _ ?_; clear hK2
  refine AW.ret ?_
  rw [← hQr]
  simp only [go_sem, reduceIte, reduceCtorEq, Nat.reduceAdd, Nat.reduceMul, Nat.reduceEqDiff, Nat.reduceLT, Nat.reduceLeDiff, Nat.reduceSub, Nat.reducePow, Nat.reduceBEq, Int.reduceToNat, List.reduceReplicate]
  exact Wk.refl _
def mkT (n : Int) (ns : List (Int × Int)) : List (List Bool) := if goodMk n ns then putL (zeroT n.toNat) ns else []
theorem goodMk_iff {n : Int} {ns : List (Int × Int)} : goodMk n ns = true ↔ 0 ≤ n ∧ n ≤ 512 ∧ ∀ p ∈ ns, inP n.toNat p := by
  simp only [goodMk, Bool.and_eq_true, decide_eq_true_eq, Bool.not_eq_true', List.any_eq_false, Bool.not_eq_true]
  constructor
  · rintro ⟨⟨h1, h2⟩, h3⟩
    refine ⟨h1, h2, fun p hp => ?_⟩
    have := not_bad (h3 p hp)
    unfold inP; omega
  · rintro ⟨h1, h2, h3⟩
    refine ⟨⟨h1, h2⟩, fun p hp => ?_⟩
    have := h3 p hp
    unfold inP at this
    simp only [badPr, Bool.or_eq_false_iff, Bool.not_eq_false', Bool.and_eq_true, decide_eq_true_eq]; omega
theorem mkT_sq {n : Int} {ns : List (Int × Int)} (h : goodMk n ns = true) : Sq n.toNat (mkT n ns) := by
  unfold mkT; rw [if_pos h]
  exact Sq.putL _ (Sq.rep _) (goodMk_iff.1 h).2.2
theorem make_r (n : Int) (ns : List (Int × Int)) (hl2 : ns.length ≤ 9223372036854775807) : Reads Try.prog 11 false [.int .i64 n, .rsl 2 (ns.map pairV)] (.tup [relB (mkT n ns), .int .i64 (((if goodMk n ns then 0 else 2) : Nat) : Int)]) := by
  by_cases h : goodMk n ns = true
  · obtain ⟨h1, h2, h3⟩ := goodMk_iff.1 h
    have := make_g n.toNat ns hl2 (by omega) h3
    rw [Int.toNat_of_nonneg h1] at this
    unfold mkT; rw [if_pos h, if_pos h]; exact this
  · have hf : goodMk n ns = false := by simpa using h
    unfold mkT; rw [if_neg h, if_neg h]
    exact make_e n ns hl2 hf
theorem rmake_all (n : Int) (ns : List (Int × Int)) (hl2 : ns.length ≤ 9223372036854775807) : Reads Try.prog 12 false [.int .i64 n, .rsl 2 (ns.map pairV)] (.tup [relB (mkT n ns), .bool (goodMk n ns)]) := by
  by_cases hn : 0 ≤ n ∧ n ≤ 512
  · have := rmake_r n.toNat ns (by omega) hl2
    rw [Int.toNat_of_nonneg hn.1] at this
    have e : goodMk n ns = !ns.any (badPr n) := by simp [goodMk, hn.1, hn.2]
    unfold mkT; rw [e]
    cases hb : ns.any (badPr n) <;> rw [hb] at this <;> exact this
  · have e : goodMk n ns = false := by
      simp only [goodMk, Bool.and_eq_false_iff, decide_eq_false_iff_not]; omega
    unfold mkT; rw [e]
    exact rmake_o n ns (by omega)
theorem pairs_spec (rs : List USet) (hl : longR rs) (hok : ∀ x ∈ rs, okW x.W) : ∃ (P : List (Int × Int)) (e : Nat), Reads Try.prog 16 false [relV rs] (.tup [.rsl 2 (P.map pairV), .int .i64 e]) ∧ P.length ≤ 300000 ∧
    (validR rs = false → P = [] ∧ e = 1) ∧ (validR rs = true → e = 0 ∧ Reads Try.prog 18 false [relV rs] (.rsl 2 (P.map pairV))) := by
  by_cases hv : validR rs = true
  · obtain ⟨t, ht, hs, hn⟩ := rel_of hok hv
    have h1 := pairs_g rs.length t hs hn
    have h2 := (rpairs_r rs.length t hs hn).old
    rw [relB_SB, ← ht] at h1 h2
    exact ⟨_, 0, h1, Nat.le_trans (pairsAt_le t _ _) (Nat.le_trans (Nat.mul_le_mul hn hn) (by decide)), fun h => (by rw [hv] at h; cases h), fun _ => ⟨rfl, h2⟩⟩
  · have hf : validR rs = false := by simpa using hv
    exact ⟨[], 1, pairs_e rs hl hf, by simp, fun _ => ⟨rfl, rfl⟩, fun h => absurd h hv⟩
theorem law_pairs (rs : List USet) (n : Int) (ns : List (Int × Int)) (hl : longR rs) (hok : ∀ x ∈ rs, okW x.W) (hl2 : ns.length ≤ 9223372036854775807) : Reads Try.prog 3 false [relV rs, .int .i64 n, .rsl 2 (ns.map pairV)] (.bool true) := by
  have haw := awake_r
  have hgr : Reads Try.prog 10 true [.rsl 1 [[.rsl 2 (rs.map rowV)]]] (.bool ([rs].any greatB)) := Reads.flat (great_r [rs] (by simp) (by simpa using hl)) rfl
  have hmk := make_r n ns hl2
  have hrmk := rmake_all n ns hl2
  have hval := rvalid_r rs hl.1 hl.2
  have hrval := rrvalid_r rs hl.1 hl.2
  have hsame : goodMk n ns = true → Reads Try.prog 13 false [relB (mkT n ns), relB (mkT n ns)] (.bool true) := fun h => by
    have := same_r n.toNat n.toNat (mkT n ns) (mkT n ns) (mkT_sq h) (mkT_sq h) (by have := goodMk_iff.1 h; omega) (by have := goodMk_iff.1 h; omega)
    rwa [decide_eq_true rfl] at this
  have hnil : goodMk n ns = false → (tabR (mkT n ns)).length = 0 := fun h => by unfold mkT; rw [if_neg (by rw [h]; simp)]; rfl
  obtain ⟨P, e, hP, hPl, hP1, hP2⟩ := pairs_spec rs hl hok
  have heq := Reads.flat (eqpairs_r P P (by omega)) rfl
  rw [decide_eq_true rfl] at heq
  have htl : (tabR (mkT n ns)).length ≤ 100000 := by
    rw [tabR_len]
    by_cases h : goodMk n ns = true
    · rw [(mkT_sq h).len]; have := goodMk_iff.1 h; omega
    · have := hnil (by simpa using h); rw [tabR_len] at this; omega
  generalize mkT n ns = T at *
  generalize hg : goodMk n ns = ok at *
  unfold relB relV at *
  refine Reads.body (rs := [.tmp 6]) Try.func3 rfl Try.ntmps3 rfl (by simp) ?_
  generalize hQr : retQ _ _ _ = Qr
  refine AW.seq fun K1 hK1 => ?_
  -- region 0
  refine AW.regionK 0 (fun _ => none) [1, 2, 3] [3] ?_
  simp only [go_sem, reduceIte, reduceCtorEq, Nat.reduceAdd, Nat.reduceMul, Nat.reduceEqDiff, Nat.reduceLT, Nat.reduceLeDiff, Nat.reduceSub, Nat.reducePow, Nat.reduceBEq, Int.reduceToNat, List.reduceReplicate]
  repeat with_reducible refine cj ?_ ?_
  all_goals try first | omega
  refine hK1 _ _ _ ?_; clear hK1
  refine AW.seq fun K2 hK2 => ?_
  refine AW.seq fun K3 hK3 => ?_
  -- region 1
  refine AW.regionK 0 (fun ii => if ii = 0 then some (.reads false (.bool true)) else none) [1, 2, 3, 14] [3] ?_
  simp only [go_sem, reduceIte, reduceCtorEq, Nat.reduceAdd, Nat.reduceMul, Nat.reduceEqDiff, Nat.reduceLT, Nat.reduceLeDiff, Nat.reduceSub, Nat.reducePow, Nat.reduceBEq, Int.reduceToNat, List.reduceReplicate]
  repeat with_reducible refine cj ?_ ?_
  all_goals try first | (exact haw) | omega | exact ent (by kernel_rfl)
  refine hK3 _ _ _ ?_; clear hK3
  -- cond 1
  refine AW.cond rfl (by simp only [go_sem, reduceIte, reduceCtorEq, Nat.reduceAdd, Nat.reduceMul, Nat.reduceEqDiff, Nat.reduceLT, Nat.reduceLeDiff, Nat.reduceSub, Nat.reducePow, Nat.reduceBEq, Int.reduceToNat, List.reduceReplicate]) ?_ ?_
  · intro hb
    try simp only [hB, decide_eq_true_eq, decide_eq_false_iff_not] at hb
    simp at hb
  · intro hb
    try simp only [hB, decide_eq_true_eq, decide_eq_false_iff_not] at hb
    refine AW.skip ?_
    refine hK2 _ _ _ ?_; clear hK2
    refine AW.seq fun K4 hK4 => ?_
    refine AW.seq fun K5 hK5 => ?_
    -- region 3
    refine AW.regionK 0 (fun ii => if ii = 2 then some (.reads true (.bool ([rs].any greatB))) else none) [1, 2, 3, 30] [3] ?_
    simp only [go_sem, reduceIte, reduceCtorEq, Nat.reduceAdd, Nat.reduceMul, Nat.reduceEqDiff, Nat.reduceLT, Nat.reduceLeDiff, Nat.reduceSub, Nat.reducePow, Nat.reduceBEq, Int.reduceToNat, List.reduceReplicate]
    repeat with_reducible refine cj ?_ ?_
    all_goals try first | (exact hgr) | (intros; (repeat' apply And.intro) <;> first | assumption | (exact hgr)) | omega | exact ent (by kernel_rfl) | (intro hgd; exact absurd hgd (by decide)) | rfl | (simp only [go_sem, reduceIte, reduceCtorEq, Nat.reduceAdd, Nat.reduceMul, Nat.reduceEqDiff, Nat.reduceLT, Nat.reduceLeDiff, Nat.reduceSub, Nat.reducePow, Nat.reduceBEq, Int.reduceToNat, List.reduceReplicate]; done) | (intro _hgd; simp_all [go_sem]; done)
    refine hK5 _ _ _ ?_; clear hK5
    -- cond 2
    refine AW.cond rfl (by simp only [go_sem, reduceIte, reduceCtorEq, Nat.reduceAdd, Nat.reduceMul, Nat.reduceEqDiff, Nat.reduceLT, Nat.reduceLeDiff, Nat.reduceSub, Nat.reducePow, Nat.reduceBEq, Int.reduceToNat, List.reduceReplicate]) ?_ ?_
    · intro hb
      try simp only [hB, decide_eq_true_eq, decide_eq_false_iff_not] at hb
      refine AW.seq fun K6 hK6 => ?_
      -- region 4
      refine AW.regionK 0 (fun _ => none) [6] [] ?_
      simp only [go_sem, reduceIte, reduceCtorEq, Nat.reduceAdd, Nat.reduceMul, Nat.reduceEqDiff, Nat.reduceLT, Nat.reduceLeDiff, Nat.reduceSub, Nat.reducePow, Nat.reduceBEq, Int.reduceToNat, List.reduceReplicate]
      repeat with_reducible refine cj ?_ ?_
      all_goals try first | omega
      refine hK6 _ _ _ ?_; clear hK6
      refine AW.ret ?_
      rw [← hQr]
      simp only [go_sem, reduceIte, reduceCtorEq, Nat.reduceAdd, Nat.reduceMul, Nat.reduceEqDiff, Nat.reduceLT, Nat.reduceLeDiff, Nat.reduceSub, Nat.reducePow, Nat.reduceBEq, Int.reduceToNat, List.reduceReplicate]
      exact Wk.refl _
    · intro hb
      try simp only [hB, decide_eq_true_eq, decide_eq_false_iff_not] at hb
      refine AW.skip ?_
      refine hK4 _ _ _ ?_; clear hK4
      refine AW.seq fun K7 hK7 => ?_
      -- region 5
      refine AW.regionK 0 (fun ii => if ii = 2 then some (.reads false (.tup [.agg [.rsl 2 (tabR T)], .int .i64 (((if ok then 0 else 2) : Nat) : Int)])) else none) [1, 2, 3, 7, 8] [3, 7] ?_
      simp only [go_sem, reduceIte, reduceCtorEq, Nat.reduceAdd, Nat.reduceMul, Nat.reduceEqDiff, Nat.reduceLT, Nat.reduceLeDiff, Nat.reduceSub, Nat.reducePow, Nat.reduceBEq, Int.reduceToNat, List.reduceReplicate]
      repeat with_reducible refine cj ?_ ?_
      all_goals try first | (exact hmk) | omega | exact ent (by kernel_rfl)
      refine hK7 _ _ _ ?_; clear hK7
      refine AW.seq fun K8 hK8 => ?_
      -- region 6
      refine AW.regionK 0 (fun ii => if ii = 2 then some (.reads false (.tup [.agg [.rsl 2 (tabR T)], .bool ok])) else none) [3, 7, 8, 9, 10] [3, 7, 9] ?_
      simp only [go_sem, reduceIte, reduceCtorEq, Nat.reduceAdd, Nat.reduceMul, Nat.reduceEqDiff, Nat.reduceLT, Nat.reduceLeDiff, Nat.reduceSub, Nat.reducePow, Nat.reduceBEq, Int.reduceToNat, List.reduceReplicate]
      repeat with_reducible refine cj ?_ ?_
      all_goals try first | (exact hrmk) | omega | exact ent (by kernel_rfl)
      refine hK8 _ _ _ ?_; clear hK8
      refine AW.seq fun K9 hK9 => ?_
      refine AW.seq fun K10 hK10 => ?_
      -- region 7
      refine AW.regionD mixed 0 (fun ii => if ii = 20 then some (.reads false (.bool true)) else if ii = 27 then some (.reads false (.bool (validR rs))) else if ii = 29 then some (.reads false (.bool (validR rs))) else none) [3, 74] [3] ?_
      simp only [go_sem, reduceIte, reduceCtorEq, Nat.reduceAdd, Nat.reduceMul, Nat.reduceEqDiff, Nat.reduceLT, Nat.reduceLeDiff, Nat.reduceSub, Nat.reducePow, Nat.reduceBEq, Int.reduceToNat, List.reduceReplicate]
      repeat with_reducible refine cj ?_ ?_
      all_goals try first | (first | (intro hh; exact ⟨hh, hval⟩) | (intro hh; exact ⟨hh, hrval⟩) | (intro hh; refine ⟨hh, ?_⟩; refine hsame ?_; revert hh; cases ok <;> simp)) | (intros; (repeat' apply And.intro) <;> first | assumption | (first | (intro hh; exact ⟨hh, hval⟩) | (intro hh; exact ⟨hh, hrval⟩) | (intro hh; refine ⟨hh, ?_⟩; refine hsame ?_; revert hh; cases ok <;> simp))) | omega | exact chk (by kernel_rfl) | exact ent (by kernel_rfl) | (intro hgd; exact absurd hgd (by decide)) | rfl | (simp only [go_sem, reduceIte, reduceCtorEq, Nat.reduceAdd, Nat.reduceMul, Nat.reduceEqDiff, Nat.reduceLT, Nat.reduceLeDiff, Nat.reduceSub, Nat.reducePow, Nat.reduceBEq, Int.reduceToNat, List.reduceReplicate]; done) | (intro _hgd; simp_all [go_sem]; done)
      refine hK10 _ _ _ ?_; clear hK10
      -- cond 3
      refine AW.cond rfl (by simp only [go_sem, reduceIte, reduceCtorEq, Nat.reduceAdd, Nat.reduceMul, Nat.reduceEqDiff, Nat.reduceLT, Nat.reduceLeDiff, Nat.reduceSub, Nat.reducePow, Nat.reduceBEq, Int.reduceToNat, List.reduceReplicate]) ?_ ?_
      · intro hb
        try simp only [hB, decide_eq_true_eq, decide_eq_false_iff_not] at hb
        exfalso; revert hb; cases ok <;> simp [hnil]
      · intro hb
        try simp only [hB, decide_eq_true_eq, decide_eq_false_iff_not] at hb
        refine AW.skip ?_
        refine hK9 _ _ _ ?_; clear hK9
        refine AW.seq fun K11 hK11 => ?_
        -- region 9
        refine AW.regionK 0 (fun ii => if ii = 1 then some (.reads false (.tup [.rsl 2 (P.map pairV), .int .i64 e])) else none) [3, 11, 12] [3] ?_
        simp only [go_sem, reduceIte, reduceCtorEq, Nat.reduceAdd, Nat.reduceMul, Nat.reduceEqDiff, Nat.reduceLT, Nat.reduceLeDiff, Nat.reduceSub, Nat.reducePow, Nat.reduceBEq, Int.reduceToNat, List.reduceReplicate]
        repeat with_reducible refine cj ?_ ?_
        all_goals try first | (exact hP) | omega | exact ent (by kernel_rfl)
        refine hK11 _ _ _ ?_; clear hK11
        refine AW.seq fun K12 hK12 => ?_
        refine AW.seq fun K13 hK13 => ?_
        -- region 10
        refine AW.regionK 0 (fun ii => if ii = 1 then some (.reads false (.bool (validR rs))) else none) [3, 11, 12, 82] [3] ?_
        simp only [go_sem, reduceIte, reduceCtorEq, Nat.reduceAdd, Nat.reduceMul, Nat.reduceEqDiff, Nat.reduceLT, Nat.reduceLeDiff, Nat.reduceSub, Nat.reducePow, Nat.reduceBEq, Int.reduceToNat, List.reduceReplicate]
        repeat with_reducible refine cj ?_ ?_
        all_goals try first | (exact hrval) | omega | exact ent (by kernel_rfl)
        refine hK13 _ _ _ ?_; clear hK13
        -- cond 4
        refine AW.cond rfl (by simp only [go_sem, reduceIte, reduceCtorEq, Nat.reduceAdd, Nat.reduceMul, Nat.reduceEqDiff, Nat.reduceLT, Nat.reduceLeDiff, Nat.reduceSub, Nat.reducePow, Nat.reduceBEq, Int.reduceToNat, List.reduceReplicate]) ?_ ?_
        · intro hb
          try simp only [hB, decide_eq_true_eq, decide_eq_false_iff_not] at hb
          obtain ⟨rfl, rfl⟩ := hP1 hb
          refine AW.seq fun K14 hK14 => ?_
          -- region 11
          refine AW.regionK 0 (fun _ => none) [6] [] ?_
          simp only [go_sem, reduceIte, reduceCtorEq, Nat.reduceAdd, Nat.reduceMul, Nat.reduceEqDiff, Nat.reduceLT, Nat.reduceLeDiff, Nat.reduceSub, Nat.reducePow, Nat.reduceBEq, Int.reduceToNat, List.reduceReplicate]
          repeat with_reducible refine cj ?_ ?_
          all_goals try first | omega | (intros; (repeat' apply And.intro) <;> first | assumption | omega | decide) | (intro hgd; exact absurd hgd (by decide)) | rfl | (simp only [go_sem, reduceIte, reduceCtorEq, Nat.reduceAdd, Nat.reduceMul, Nat.reduceEqDiff, Nat.reduceLT, Nat.reduceLeDiff, Nat.reduceSub, Nat.reducePow, Nat.reduceBEq, Int.reduceToNat, List.reduceReplicate]; done) | (intro _hgd; simp_all [go_sem]; done)
          refine hK14 _ _ _ ?_; clear hK14
          refine AW.ret ?_
          rw [← hQr]
          simp only [go_sem, reduceIte, reduceCtorEq, Nat.reduceAdd, Nat.reduceMul, Nat.reduceEqDiff, Nat.reduceLT, Nat.reduceLeDiff, Nat.reduceSub, Nat.reducePow, Nat.reduceBEq, Int.reduceToNat, List.reduceReplicate]
          exact Wk.of_eq (by simp)
        · intro hb
          try simp only [hB, decide_eq_true_eq, decide_eq_false_iff_not] at hb
          obtain ⟨he, hrp⟩ := hP2 hb
          subst he
          refine AW.skip ?_
          refine hK12 _ _ _ ?_; clear hK12
          refine AW.seq fun K15 hK15 => ?_
          -- region 12
          refine AW.regionK 0 (fun ii => if ii = 5 then some (.reads false (.rsl 2 (P.map pairV))) else if ii = 6 then some (.reads true (.bool true)) else none) [6] [] ?_
          simp only [go_sem, reduceIte, reduceCtorEq, Nat.reduceAdd, Nat.reduceMul, Nat.reduceEqDiff, Nat.reduceLT, Nat.reduceLeDiff, Nat.reduceSub, Nat.reducePow, Nat.reduceBEq, Int.reduceToNat, List.reduceReplicate]
          repeat with_reducible refine cj ?_ ?_
          all_goals try first | (first | (intro hh; exact ⟨hh, hrp⟩) | (intro hh; exact ⟨hh, heq⟩)) | (intros; (repeat' apply And.intro) <;> first | assumption | (first | (intro hh; exact ⟨hh, hrp⟩) | (intro hh; exact ⟨hh, heq⟩))) | omega | exact ent (by kernel_rfl) | (intro hgd; exact absurd hgd (by decide)) | rfl | (simp only [go_sem, reduceIte, reduceCtorEq, Nat.reduceAdd, Nat.reduceMul, Nat.reduceEqDiff, Nat.reduceLT, Nat.reduceLeDiff, Nat.reduceSub, Nat.reducePow, Nat.reduceBEq, Int.reduceToNat, List.reduceReplicate]; done) | (intro _hgd; simp_all [go_sem]; done)
          refine hK15 _ _ _ ?_; clear hK15
          refine AW.ret ?_
          rw [← hQr]
          simp only [go_sem, reduceIte, reduceCtorEq, Nat.reduceAdd, Nat.reduceMul, Nat.reduceEqDiff, Nat.reduceLT, Nat.reduceLeDiff, Nat.reduceSub, Nat.reducePow, Nat.reduceBEq, Int.reduceToNat, List.reduceReplicate]
          exact Wk.of_eq (by simp)
end Go.Proofs.R
/- The algebra of relations. -/
namespace Go.AM
theorem bool_ext {x y : Bool} (h : x = true ↔ y = true) : x = y := by cases x <;> cases y <;> simp_all
theorem comp_assoc {n : Nat} {a b c : List (List Bool)} (hb : Sq n b) (hc : Sq n c) : compT n (compT n a b) c = compT n a (compT n b c) := by
  have h1 : Sq n (compT n b c) := Sq.comp hc
  refine tab_ext (n := n) (Sq.comp hc) (Sq.comp h1) fun i j hi hj => bool_ext ?_
  rw [atT_comp hc hi hj, atT_comp h1 hi hj]
  constructor
  · rintro ⟨k, hk, h2, h3⟩
    obtain ⟨q, hq, h4, h5⟩ := (atT_comp hb hi hk).1 h2
    exact ⟨q, hq, h4, (atT_comp hc hq hj).2 ⟨k, hk, h5, h3⟩⟩
  · rintro ⟨q, hq, h4, h5⟩
    obtain ⟨k, hk, h6, h7⟩ := (atT_comp hc hq hj).1 h5
    exact ⟨k, hk, (atT_comp hb hi hk).2 ⟨q, hq, h4, h6⟩, h7⟩
theorem inv_comp {n : Nat} {a b : List (List Bool)} (hb : Sq n b) : invT n (compT n a b) = compT n (invT n b) (invT n a) := by
  refine tab_ext (n := n) Sq.inv (Sq.comp Sq.inv) fun i j hi hj => bool_ext ?_
  rw [atT_inv hi hj, atT_comp hb hj hi, atT_comp Sq.inv hi hj]
  constructor
  · rintro ⟨k, hk, h2, h3⟩; exact ⟨k, hk, by rw [atT_inv hi hk]; exact h3, by rw [atT_inv hk hj]; exact h2⟩
  · rintro ⟨k, hk, h2, h3⟩; exact ⟨k, hk, by rw [atT_inv hk hj] at h3; exact h3, by rw [atT_inv hi hk] at h2; exact h2⟩
theorem inv_inv {n : Nat} {a : List (List Bool)} (ha : Sq n a) : invT n (invT n a) = a :=
  tab_ext (n := n) Sq.inv ha fun i j hi hj => by rw [atT_inv hi hj, atT_inv hj hi]
theorem mk_pairs {n : Nat} {a : List (List Bool)} (ha : Sq n a) : putL (zeroT n) (pairsT a n) = a := by
  refine tab_ext (n := n) (Sq.putL _ (Sq.rep n) pairsT_in) ha fun i j hi hj => ?_
  rw [atT_putL (n := n) (u := zeroT n) i j _ (Sq.rep n) pairsT_in]
  have e : atT (zeroT n) i j = false := atT_rep n i j
  rw [e, Bool.false_or]
  refine bool_ext ?_
  rw [decide_eq_true_eq, pairsT_mem]
  constructor
  · rintro ⟨a, b, he, _, _, h2⟩
    simp only [Prod.mk.injEq] at he
    have : i = a ∧ j = b := by omega
    rw [this.1, this.2]; exact h2
  · intro h; exact ⟨i, j, rfl, hi, hj, h⟩
end Go.AM
namespace Go.Proofs.R
open Go.AM Go
set_option maxRecDepth 100000
set_option maxHeartbeats 2000000
theorem same_g (n : Nat) (a : List (List Bool)) (ha : Sq n a) (hn : n ≤ 512) : Reads Try.prog 13 false [relB a, relB a] (.bool true) := by
  have := same_r n n a a ha ha hn hn
  rwa [decide_eq_true rfl] at this
theorem law_algebra (rs us vs : List USet) (hl : longR rs) (hl2 : longR us) (hl3 : longR vs) (hok : ∀ x ∈ rs, okW x.W) (hok2 : ∀ x ∈ us, okW x.W) (hok3 : ∀ x ∈ vs, okW x.W) : Reads Try.prog 4 false [relV rs, relV us, relV vs] (.bool true) := by
  have haw := awake_r
  have hgr : Reads Try.prog 10 true [.rsl 1 [[.rsl 2 (rs.map rowV)], [.rsl 2 (us.map rowV)], [.rsl 2 (vs.map rowV)]]] (.bool ([rs, us, vs].any greatB)) := Reads.flat (great_r [rs, us, vs] (by simp) (by simpa using ⟨hl, hl2, hl3⟩)) rfl
  have hv1 := rrvalid_r rs hl.1 hl.2
  have hv2 := rrvalid_r us hl2.1 hl2.2
  have hv3 := rrvalid_r vs hl3.1 hl3.2
  have hll := hl.1
  have hll2 := hl2.1
  have hll3 := hl3.1
  have hro1 := fun h => rel_of hok h
  have hro2 := fun h => rel_of hok2 h
  have hro3 := fun h => rel_of hok3 h
  unfold relV at *
  refine Reads.body (rs := [.tmp 6]) Try.func4 rfl Try.ntmps4 rfl (by simp) ?_
  generalize hQr : retQ _ _ _ = Qr
  refine AW.seq fun K1 hK1 => ?_
  -- region 0
  refine AW.regionK 0 (fun _ => none) [3, 4, 5] [3, 4, 5] ?_
  simp only [go_sem, reduceIte, reduceCtorEq, Nat.reduceAdd, Nat.reduceMul, Nat.reduceEqDiff, Nat.reduceLT, Nat.reduceLeDiff, Nat.reduceSub, Nat.reducePow, Nat.reduceBEq, Int.reduceToNat, List.reduceReplicate]
  repeat with_reducible refine cj ?_ ?_
  all_goals try first | omega
  refine hK1 _ _ _ ?_; clear hK1
  refine AW.seq fun K2 hK2 => ?_
  refine AW.seq fun K3 hK3 => ?_
  -- region 1
  refine AW.regionK 0 (fun ii => if ii = 0 then some (.reads false (.bool true)) else none) [3, 4, 5, 26] [3, 4, 5] ?_
  simp only [go_sem, reduceIte, reduceCtorEq, Nat.reduceAdd, Nat.reduceMul, Nat.reduceEqDiff, Nat.reduceLT, Nat.reduceLeDiff, Nat.reduceSub, Nat.reducePow, Nat.reduceBEq, Int.reduceToNat, List.reduceReplicate]
  repeat with_reducible refine cj ?_ ?_
  all_goals try first | (exact haw) | omega | exact ent (by kernel_rfl)
  refine hK3 _ _ _ ?_; clear hK3
  -- cond 1
  refine AW.cond rfl (by simp only [go_sem, reduceIte, reduceCtorEq, Nat.reduceAdd, Nat.reduceMul, Nat.reduceEqDiff, Nat.reduceLT, Nat.reduceLeDiff, Nat.reduceSub, Nat.reducePow, Nat.reduceBEq, Int.reduceToNat, List.reduceReplicate]) ?_ ?_
  · intro hb
    try simp only [hB, decide_eq_true_eq, decide_eq_false_iff_not] at hb
    simp at hb
  · intro hb
    try simp only [hB, decide_eq_true_eq, decide_eq_false_iff_not] at hb
    refine AW.skip ?_
    refine hK2 _ _ _ ?_; clear hK2
    refine AW.seq fun K4 hK4 => ?_
    refine AW.seq fun K5 hK5 => ?_
    -- region 3
    refine AW.regionK 0 (fun ii => if ii = 4 then some (.reads true (.bool ([rs, us, vs].any greatB))) else if ii = 7 then some (.reads false (.bool (validR rs))) else if ii = 12 then some (.reads false (.bool (validR us))) else if ii = 17 then some (.reads false (.bool (validR vs))) else none) [3, 4, 5, 64] [3, 4, 5] ?_
    simp only [go_sem, reduceIte, reduceCtorEq, Nat.reduceAdd, Nat.reduceMul, Nat.reduceEqDiff, Nat.reduceLT, Nat.reduceLeDiff, Nat.reduceSub, Nat.reducePow, Nat.reduceBEq, Int.reduceToNat, List.reduceReplicate]
    repeat with_reducible refine cj ?_ ?_
    all_goals try first | (first | exact hgr | (intro hh; exact ⟨hh, hv1⟩) | (intro hh; exact ⟨hh, hv2⟩) | (intro hh; exact ⟨hh, hv3⟩)) | (intros; (repeat' apply And.intro) <;> first | assumption | (first | exact hgr | (intro hh; exact ⟨hh, hv1⟩) | (intro hh; exact ⟨hh, hv2⟩) | (intro hh; exact ⟨hh, hv3⟩))) | omega | exact ent (by kernel_rfl) | (intro hgd; exact absurd hgd (by decide)) | rfl | (simp only [go_sem, reduceIte, reduceCtorEq, Nat.reduceAdd, Nat.reduceMul, Nat.reduceEqDiff, Nat.reduceLT, Nat.reduceLeDiff, Nat.reduceSub, Nat.reducePow, Nat.reduceBEq, Int.reduceToNat, List.reduceReplicate]; done) | (intro _hgd; simp_all [go_sem]; done)
    refine hK5 _ _ _ ?_; clear hK5
    -- cond 2
    refine AW.cond rfl (by simp only [go_sem, reduceIte, reduceCtorEq, Nat.reduceAdd, Nat.reduceMul, Nat.reduceEqDiff, Nat.reduceLT, Nat.reduceLeDiff, Nat.reduceSub, Nat.reducePow, Nat.reduceBEq, Int.reduceToNat, List.reduceReplicate]) ?_ ?_
    · intro hb
      try simp only [hB, decide_eq_true_eq, decide_eq_false_iff_not] at hb
      refine AW.seq fun K6 hK6 => ?_
      -- region 4
      refine AW.regionK 0 (fun _ => none) [6] [] ?_
      simp only [go_sem, reduceIte, reduceCtorEq, Nat.reduceAdd, Nat.reduceMul, Nat.reduceEqDiff, Nat.reduceLT, Nat.reduceLeDiff, Nat.reduceSub, Nat.reducePow, Nat.reduceBEq, Int.reduceToNat, List.reduceReplicate]
      repeat with_reducible refine cj ?_ ?_
      all_goals try first | omega
      refine hK6 _ _ _ ?_; clear hK6
      refine AW.ret ?_
      rw [← hQr]
      simp only [go_sem, reduceIte, reduceCtorEq, Nat.reduceAdd, Nat.reduceMul, Nat.reduceEqDiff, Nat.reduceLT, Nat.reduceLeDiff, Nat.reduceSub, Nat.reducePow, Nat.reduceBEq, Int.reduceToNat, List.reduceReplicate]
      exact Wk.refl _
    · intro hb
      try simp only [hB, decide_eq_true_eq, decide_eq_false_iff_not] at hb
      have hvr : validR rs = true := by revert hb; cases validR rs <;> simp
      have hvu : validR us = true := by revert hb; cases validR us <;> simp
      have hvv : validR vs = true := by revert hb; cases validR vs <;> simp
      have hnn : us.length = rs.length ∧ vs.length = rs.length := by
        rw [hvr, hvu, hvv] at hb; simp at hb; omega
      clear hb
      obtain ⟨a, ha1, ha2, hn⟩ := hro1 hvr
      obtain ⟨b, hb1, hb2, _⟩ := hro2 hvu
      obtain ⟨c, hc1, hc2, _⟩ := hro3 hvv
      rw [hnn.1] at hb2
      rw [hnn.2] at hc2
      have ea : rs.map rowV = tabR a := by rw [tabR_SB, ← ha1]
      have eb : us.map rowV = tabR b := by rw [tabR_SB, ← hb1]
      have ec : vs.map rowV = tabR c := by rw [tabR_SB, ← hc1]
      rw [ea, eb, ec]
      clear hro1 hro2 hro3 hgr hv1 hv2 hv3
      generalize rs.length = n at *
      have hbc : Sq n (compT n b c) := Sq.comp hc2
      have hab : Sq n (compT n a b) := Sq.comp hb2
      have h5 := compose_g n a b ha2 hb2 hn
      have h6 := compose_g n b c hb2 hc2 hn
      have h7 := compose_g n (compT n a b) c hab hc2 hn
      have h8 := compose_g n a (compT n b c) ha2 hbc hn
      rw [comp_assoc hb2 hc2] at h7
      have s1 := same_g n _ (Sq.comp hbc (a := a)) hn
      have h11 := inverse_g n (compT n a b) hab hn
      have h12 := inverse_g n a ha2 hn
      have h13 := inverse_g n b hb2 hn
      have h14 := compose_g n (invT n b) (invT n a) Sq.inv Sq.inv hn
      rw [inv_comp hb2] at h11
      have h15 := inverse_g n (invT n a) Sq.inv hn
      rw [inv_inv ha2] at h15
      have h16 := pairs_g n a ha2 hn
      have hpl : (pairsT a n).length ≤ 300000 := Nat.le_trans (pairsAt_le a _ _) (Nat.le_trans (Nat.mul_le_mul hn hn) (by decide))
      have h17 := make_g n (pairsT a n) (by omega) hn pairsT_in
      rw [mk_pairs ha2] at h17
      have s2 := same_g n _ (Sq.comp (Sq.inv (n := n) (t := a)) (a := invT n b)) hn
      have s3 := same_g n a ha2 hn
      have hla : (tabR a).length = n := by rw [tabR_len, ha2.len]
      unfold relB at *
      generalize compT n a (compT n b c) = T1 at *
      generalize compT n (invT n b) (invT n a) = T2 at *
      generalize compT n a b = T3 at *
      generalize compT n b c = T4 at *
      generalize invT n a = T5 at *
      generalize invT n b = T6 at *
      generalize pairsT a n = P at *
      refine AW.skip ?_
      refine hK4 _ _ _ ?_; clear hK4
      refine AW.seq fun K7 hK7 => ?_
      -- region 5
      refine AW.regionK 0 (fun ii => if ii = 2 then some (.reads false (.tup [.agg [.rsl 2 (tabR T3)], .int .i64 ((0 : Nat) : Int)])) else none) [3, 4, 5, 7, 8] [3, 4, 5, 7] ?_
      simp only [go_sem, reduceIte, reduceCtorEq, Nat.reduceAdd, Nat.reduceMul, Nat.reduceEqDiff, Nat.reduceLT, Nat.reduceLeDiff, Nat.reduceSub, Nat.reducePow, Nat.reduceBEq, Int.reduceToNat, List.reduceReplicate]
      repeat with_reducible refine cj ?_ ?_
      all_goals try first | (exact h5) | omega | exact ent (by kernel_rfl)
      refine hK7 _ _ _ ?_; clear hK7
      refine AW.seq fun K8 hK8 => ?_
      -- region 6
      refine AW.regionK 0 (fun ii => if ii = 2 then some (.reads false (.tup [.agg [.rsl 2 (tabR T4)], .int .i64 ((0 : Nat) : Int)])) else none) [3, 4, 5, 7, 8, 9, 10] [3, 4, 5, 7, 9] ?_
      simp only [go_sem, reduceIte, reduceCtorEq, Nat.reduceAdd, Nat.reduceMul, Nat.reduceEqDiff, Nat.reduceLT, Nat.reduceLeDiff, Nat.reduceSub, Nat.reducePow, Nat.reduceBEq, Int.reduceToNat, List.reduceReplicate]
      repeat with_reducible refine cj ?_ ?_
      all_goals try first | (exact h6) | omega | exact ent (by kernel_rfl)
      refine hK8 _ _ _ ?_; clear hK8
      refine AW.seq fun K9 hK9 => ?_
      -- region 7
      refine AW.regionK 0 (fun ii => if ii = 2 then some (.reads false (.tup [.agg [.rsl 2 (tabR T1)], .int .i64 ((0 : Nat) : Int)])) else none) [3, 4, 7, 8, 9, 10, 11, 12] [3, 4, 7, 9, 11] ?_
      simp only [go_sem, reduceIte, reduceCtorEq, Nat.reduceAdd, Nat.reduceMul, Nat.reduceEqDiff, Nat.reduceLT, Nat.reduceLeDiff, Nat.reduceSub, Nat.reducePow, Nat.reduceBEq, Int.reduceToNat, List.reduceReplicate]
      repeat with_reducible refine cj ?_ ?_
      all_goals try first | (exact h7) | omega | exact ent (by kernel_rfl)
      refine hK9 _ _ _ ?_; clear hK9
      refine AW.seq fun K10 hK10 => ?_
      -- region 8
      refine AW.regionK 0 (fun ii => if ii = 2 then some (.reads false (.tup [.agg [.rsl 2 (tabR T1)], .int .i64 ((0 : Nat) : Int)])) else none) [3, 4, 7, 8, 10, 11, 12, 13, 14] [3, 4, 7, 11, 13] ?_
      simp only [go_sem, reduceIte, reduceCtorEq, Nat.reduceAdd, Nat.reduceMul, Nat.reduceEqDiff, Nat.reduceLT, Nat.reduceLeDiff, Nat.reduceSub, Nat.reducePow, Nat.reduceBEq, Int.reduceToNat, List.reduceReplicate]
      repeat with_reducible refine cj ?_ ?_
      all_goals try first | (exact h8) | omega | exact ent (by kernel_rfl)
      refine hK10 _ _ _ ?_; clear hK10
      refine AW.seq fun K11 hK11 => ?_
      refine AW.seq fun K12 hK12 => ?_
      -- region 9
      refine AW.regionK 0 (fun ii => if ii = 17 then some (.reads false (.bool true)) else none) [3, 4, 7, 108] [3, 4, 7] ?_
      simp only [go_sem, reduceIte, reduceCtorEq, Nat.reduceAdd, Nat.reduceMul, Nat.reduceEqDiff, Nat.reduceLT, Nat.reduceLeDiff, Nat.reduceSub, Nat.reducePow, Nat.reduceBEq, Int.reduceToNat, List.reduceReplicate]
      repeat with_reducible refine cj ?_ ?_
      all_goals try first | ((intro hh; exact ⟨hh, s1⟩)) | (intros; (repeat' apply And.intro) <;> first | assumption | ((intro hh; exact ⟨hh, s1⟩))) | omega | exact ent (by kernel_rfl) | (intro hgd; exact absurd hgd (by decide)) | rfl | (simp only [go_sem, reduceIte, reduceCtorEq, Nat.reduceAdd, Nat.reduceMul, Nat.reduceEqDiff, Nat.reduceLT, Nat.reduceLeDiff, Nat.reduceSub, Nat.reducePow, Nat.reduceBEq, Int.reduceToNat, List.reduceReplicate]; done) | (intro _hgd; simp_all [go_sem]; done)
      refine hK12 _ _ _ ?_; clear hK12
      -- cond 3
      refine AW.cond rfl (by simp only [go_sem, reduceIte, reduceCtorEq, Nat.reduceAdd, Nat.reduceMul, Nat.reduceEqDiff, Nat.reduceLT, Nat.reduceLeDiff, Nat.reduceSub, Nat.reducePow, Nat.reduceBEq, Int.reduceToNat, List.reduceReplicate]) ?_ ?_
      · intro hb
        try simp only [hB, decide_eq_true_eq, decide_eq_false_iff_not] at hb
        exfalso; simp at hb
      · intro hb
        try simp only [hB, decide_eq_true_eq, decide_eq_false_iff_not] at hb
        refine AW.skip ?_
        refine hK11 _ _ _ ?_; clear hK11
        refine AW.seq fun K13 hK13 => ?_
        -- region 11
        refine AW.regionK 0 (fun ii => if ii = 1 then some (.reads false (.tup [.agg [.rsl 2 (tabR T2)], .int .i64 ((0 : Nat) : Int)])) else none) [3, 4, 8, 15] [3, 4, 15] ?_
        simp only [go_sem, reduceIte, reduceCtorEq, Nat.reduceAdd, Nat.reduceMul, Nat.reduceEqDiff, Nat.reduceLT, Nat.reduceLeDiff, Nat.reduceSub, Nat.reducePow, Nat.reduceBEq, Int.reduceToNat, List.reduceReplicate]
        repeat with_reducible refine cj ?_ ?_
        all_goals try first | (exact h11) | omega | exact ent (by kernel_rfl)
        refine hK13 _ _ _ ?_; clear hK13
        refine AW.seq fun K14 hK14 => ?_
        -- region 12
        refine AW.regionK 0 (fun ii => if ii = 1 then some (.reads false (.tup [.agg [.rsl 2 (tabR T5)], .int .i64 ((0 : Nat) : Int)])) else none) [3, 4, 8, 10, 15, 16] [3, 4, 15, 16] ?_
        simp only [go_sem, reduceIte, reduceCtorEq, Nat.reduceAdd, Nat.reduceMul, Nat.reduceEqDiff, Nat.reduceLT, Nat.reduceLeDiff, Nat.reduceSub, Nat.reducePow, Nat.reduceBEq, Int.reduceToNat, List.reduceReplicate]
        repeat with_reducible refine cj ?_ ?_
        all_goals try first | (exact h12) | omega | exact ent (by kernel_rfl)
        refine hK14 _ _ _ ?_; clear hK14
        refine AW.seq fun K15 hK15 => ?_
        -- region 13
        refine AW.regionK 0 (fun ii => if ii = 1 then some (.reads false (.tup [.agg [.rsl 2 (tabR T6)], .int .i64 ((0 : Nat) : Int)])) else none) [3, 8, 10, 12, 15, 16, 17] [3, 15, 16, 17] ?_
        simp only [go_sem, reduceIte, reduceCtorEq, Nat.reduceAdd, Nat.reduceMul, Nat.reduceEqDiff, Nat.reduceLT, Nat.reduceLeDiff, Nat.reduceSub, Nat.reducePow, Nat.reduceBEq, Int.reduceToNat, List.reduceReplicate]
        repeat with_reducible refine cj ?_ ?_
        all_goals try first | (exact h13) | omega | exact ent (by kernel_rfl)
        refine hK15 _ _ _ ?_; clear hK15
        refine AW.seq fun K16 hK16 => ?_
        -- region 14
        refine AW.regionK 0 (fun ii => if ii = 2 then some (.reads false (.tup [.agg [.rsl 2 (tabR T2)], .int .i64 ((0 : Nat) : Int)])) else none) [3, 8, 10, 12, 14, 15, 16, 18] [3, 15, 16, 18] ?_
        simp only [go_sem, reduceIte, reduceCtorEq, Nat.reduceAdd, Nat.reduceMul, Nat.reduceEqDiff, Nat.reduceLT, Nat.reduceLeDiff, Nat.reduceSub, Nat.reducePow, Nat.reduceBEq, Int.reduceToNat, List.reduceReplicate]
        repeat with_reducible refine cj ?_ ?_
        all_goals try first | (exact h14) | omega | exact ent (by kernel_rfl)
        refine hK16 _ _ _ ?_; clear hK16
        refine AW.seq fun K17 hK17 => ?_
        -- region 15
        refine AW.regionK 0 (fun ii => if ii = 1 then some (.reads false (.tup [.agg [.rsl 2 (tabR a)], .int .i64 ((0 : Nat) : Int)])) else none) [3, 8, 10, 12, 14, 15, 18, 19, 20] [3, 15, 18, 19] ?_
        simp only [go_sem, reduceIte, reduceCtorEq, Nat.reduceAdd, Nat.reduceMul, Nat.reduceEqDiff, Nat.reduceLT, Nat.reduceLeDiff, Nat.reduceSub, Nat.reducePow, Nat.reduceBEq, Int.reduceToNat, List.reduceReplicate]
        repeat with_reducible refine cj ?_ ?_
        all_goals try first | (exact h15) | omega | exact ent (by kernel_rfl)
        refine hK17 _ _ _ ?_; clear hK17
        refine AW.seq fun K18 hK18 => ?_
        -- region 16
        refine AW.regionK 0 (fun ii => if ii = 1 then some (.reads false (.tup [.rsl 2 (P.map pairV), .int .i64 ((0 : Nat) : Int)])) else none) [3, 8, 10, 12, 14, 15, 18, 19, 20, 21, 22] [3, 15, 18, 19] ?_
        simp only [go_sem, reduceIte, reduceCtorEq, Nat.reduceAdd, Nat.reduceMul, Nat.reduceEqDiff, Nat.reduceLT, Nat.reduceLeDiff, Nat.reduceSub, Nat.reducePow, Nat.reduceBEq, Int.reduceToNat, List.reduceReplicate]
        repeat with_reducible refine cj ?_ ?_
        all_goals try first | (exact h16) | omega | exact ent (by kernel_rfl)
        refine hK18 _ _ _ ?_; clear hK18
        refine AW.seq fun K19 hK19 => ?_
        -- region 17
        refine AW.regionK 0 (fun ii => if ii = 4 then some (.reads false (.tup [.agg [.rsl 2 (tabR a)], .int .i64 ((0 : Nat) : Int)])) else none) [3, 8, 10, 12, 14, 15, 18, 19, 20, 22, 23, 24] [3, 15, 18, 19, 23] ?_
        simp only [go_sem, reduceIte, reduceCtorEq, Nat.reduceAdd, Nat.reduceMul, Nat.reduceEqDiff, Nat.reduceLT, Nat.reduceLeDiff, Nat.reduceSub, Nat.reducePow, Nat.reduceBEq, Int.reduceToNat, List.reduceReplicate, hla]
        repeat with_reducible refine cj ?_ ?_
        all_goals try first | (exact h17) | omega | exact ent (by kernel_rfl)
        refine hK19 _ _ _ ?_; clear hK19
        refine AW.seq fun K20 hK20 => ?_
        -- region 18
        refine AW.regionK 0 (fun ii => if ii = 29 then some (.reads false (.bool true)) else if ii = 34 then some (.reads false (.bool true)) else if ii = 39 then some (.reads false (.bool true)) else none) [6] [] ?_
        simp only [go_sem, reduceIte, reduceCtorEq, Nat.reduceAdd, Nat.reduceMul, Nat.reduceEqDiff, Nat.reduceLT, Nat.reduceLeDiff, Nat.reduceSub, Nat.reducePow, Nat.reduceBEq, Int.reduceToNat, List.reduceReplicate]
        repeat with_reducible refine cj ?_ ?_
        all_goals try first | (first | (intro hh; exact ⟨hh, s2⟩) | (intro hh; exact ⟨hh, s3⟩)) | (intros; (repeat' apply And.intro) <;> first | assumption | (first | (intro hh; exact ⟨hh, s2⟩) | (intro hh; exact ⟨hh, s3⟩))) | omega | exact ent (by kernel_rfl) | (intro hgd; exact absurd hgd (by decide)) | rfl | (simp only [go_sem, reduceIte, reduceCtorEq, Nat.reduceAdd, Nat.reduceMul, Nat.reduceEqDiff, Nat.reduceLT, Nat.reduceLeDiff, Nat.reduceSub, Nat.reducePow, Nat.reduceBEq, Int.reduceToNat, List.reduceReplicate]; done) | (intro _hgd; simp_all [go_sem]; done)
        refine hK20 _ _ _ ?_; clear hK20
        refine AW.ret ?_
        rw [← hQr]
        simp only [go_sem, reduceIte, reduceCtorEq, Nat.reduceAdd, Nat.reduceMul, Nat.reduceEqDiff, Nat.reduceLT, Nat.reduceLeDiff, Nat.reduceSub, Nat.reducePow, Nat.reduceBEq, Int.reduceToNat, List.reduceReplicate]
        exact Wk.of_eq (by simp)
end Go.Proofs.R
/- The transitive closure. -/
namespace Go.AM
theorem warshI_row {n k : Nat} {t : List (List Bool)} (ht : Sq n t) (hk : k < n) : ∀ m, m ≤ n → Sq n (iter (warshI k) m t) ∧ rowT (iter (warshI k) m t) k = rowT t k ∧ ∀ i, i < n → rowT (iter (warshI k) m t) i = if i < m ∧ atT t i k = true then List.zipWith (· || ·) (rowT t i) (rowT t k) else rowT t i
  | 0, _ => ⟨ht, rfl, fun i _ => by rw [if_neg (by omega)]; rfl⟩
  | m + 1, hm => by
    obtain ⟨h1, h2, h3⟩ := warshI_row ht hk m (by omega)
    have hs : Sq n (iter (warshI k) (m + 1) t) := h1.warshI hk (by omega)
    rw [iter_succ, warshI_eq] at hs ⊢
    generalize iter (warshI k) m t = U at *
    have hUl := h1.len
    have hat : atT U m k = atT t m k := by
      have := h3 m (by omega)
      rw [if_neg (by omega)] at this
      unfold atT; rw [this]
    have hrm : rowT U m = rowT t m := by have := h3 m (by omega); rw [if_neg (by omega)] at this; exact this
    have hself : List.zipWith (· || ·) (rowT t k) (rowT t k) = rowT t k := by
      refine List.ext_getElem (by simp) fun i a b => by simp
    by_cases hc : atT t m k = true
    · rw [if_pos (by rw [hat]; exact hc)] at hs ⊢
      unfold orRow at hs ⊢
      refine ⟨hs, ?_, fun i hi => ?_⟩
      · rw [rowT_set]
        by_cases e : m = k
        · rw [if_pos ⟨e, by omega⟩, hrm, h2, e, hself]
        · rw [if_neg (by rintro ⟨x, _⟩; exact e x), h2]
      · rw [rowT_set]
        by_cases e : m = i
        · subst e
          rw [if_pos ⟨rfl, by omega⟩, hrm, h2, if_pos ⟨by omega, hc⟩]
        · rw [if_neg (by rintro ⟨x, _⟩; exact e x), h3 i hi]
          have : (i < m + 1 ∧ atT t i k = true) ↔ (i < m ∧ atT t i k = true) := ⟨fun h => ⟨by omega, h.2⟩, fun h => ⟨by omega, h.2⟩⟩
          simp only [this]
    · rw [if_neg (by rw [hat]; exact hc)] at hs ⊢
      refine ⟨hs, h2, fun i hi => ?_⟩
      rw [h3 i hi]
      have : (i < m + 1 ∧ atT t i k = true) ↔ (i < m ∧ atT t i k = true) := ⟨fun h => ⟨by
        by_cases e : i = m
        · subst e; exact absurd h.2 hc
        · omega, h.2⟩, fun h => ⟨by omega, h.2⟩⟩
      simp only [this]
theorem atT_warshK {n k : Nat} {t : List (List Bool)} (ht : Sq n t) (hk : k < n) {i j : Nat} (hi : i < n) (hj : j < n) : atT (warshK n k t) i j = (atT t i j || (atT t i k && atT t k j)) := by
  obtain ⟨_, _, h3⟩ := warshI_row ht hk n (Nat.le_refl _)
  have h := h3 i hi
  unfold warshK
  have h4 : atT (iter (warshI k) n t) i j = (rowT (iter (warshI k) n t) i).getD j false := rfl
  rw [h4, h]
  by_cases hc : atT t i k = true
  · rw [if_pos ⟨hi, hc⟩, zipB_get _ (by rw [ht.rowLen hi, ht.rowLen hk]) (by rw [ht.rowLen hi]; exact hj), hc, Bool.true_and]; rfl
  · rw [if_neg (by rintro ⟨_, x⟩; exact hc x)]
    have : atT t i k = false := by simpa using hc
    rw [this, Bool.false_and, Bool.or_false]; rfl
/-- Paths whose inner nodes are less than k. -/
def R_ (t : List (List Bool)) : Nat → Nat → Nat → Bool
  | 0, i, j => atT t i j
  | k + 1, i, j => R_ t k i j || (R_ t k i k && R_ t k k j)
theorem warsh_R {n : Nat} {t : List (List Bool)} (ht : Sq n t) : ∀ m, m ≤ n → ∀ i j, i < n → j < n → atT (iter (warshK n) m t) i j = R_ t m i j
  | 0, _, i, j, _, _ => rfl
  | m + 1, hm, i, j, hi, hj => by
    have ih := warsh_R ht m (by omega)
    rw [iter_succ, atT_warshK (ht.warsh' (by omega)) (by omega) hi hj, ih i j hi hj, ih i m hi (by omega), ih m j (by omega) hj]; rfl
theorem R_trans {t : List (List Bool)} : ∀ (k m : Nat), m < k → ∀ i j, R_ t k i m = true → R_ t k m j = true → R_ t k i j = true
  | k + 1, m, hm, i, j, h1, h2 => by
    simp only [R_, Bool.or_eq_true, Bool.and_eq_true] at h1 h2 ⊢
    by_cases e : m = k
    · subst e
      right
      exact ⟨by rcases h1 with h | h; exact h; exact h.1, by rcases h2 with h | h; exact h; exact h.2⟩
    · have ih := R_trans (t := t) k m (by omega)
      rcases h1 with h1 | h1 <;> rcases h2 with h2 | h2
      · exact .inl (ih i j h1 h2)
      · exact .inr ⟨ih i k h1 h2.1, h2.2⟩
      · exact .inr ⟨h1.1, ih k j h1.2 h2⟩
      · exact .inr ⟨h1.1, h2.2⟩
theorem warsh_trans {n : Nat} {t : List (List Bool)} (ht : Sq n t) {i k j : Nat} (hi : i < n) (hk : k < n) (hj : j < n) (h1 : atT (warsh n t) i k = true) (h2 : atT (warsh n t) k j = true) : atT (warsh n t) i j = true := by
  unfold warsh at *
  rw [warsh_R ht n (Nat.le_refl _) _ _ hi hk] at h1
  rw [warsh_R ht n (Nat.le_refl _) _ _ hk hj] at h2
  rw [warsh_R ht n (Nat.le_refl _) _ _ hi hj]
  exact R_trans n k hk i j h1 h2
theorem R_mono {t : List (List Bool)} : ∀ (k i j : Nat), atT t i j = true → R_ t k i j = true
  | 0, _, _, h => h
  | k + 1, i, j, h => by simp only [R_, Bool.or_eq_true]; exact .inl (R_mono k i j h)
theorem warsh_sub {n : Nat} {t : List (List Bool)} (ht : Sq n t) {i j : Nat} (hi : i < n) (hj : j < n) (h : atT t i j = true) : atT (warsh n t) i j = true := by
  unfold warsh; rw [warsh_R ht n (Nat.le_refl _) _ _ hi hj]; exact R_mono n i j h
/-- The closure is the least. -/
theorem R_least {n : Nat} {t : List (List Bool)} {S : Nat → Nat → Prop} (hs : ∀ i j, i < n → j < n → atT t i j = true → S i j) (ht : ∀ i k j, i < n → k < n → j < n → S i k → S k j → S i j) : ∀ (k i j : Nat), k ≤ n → i < n → j < n → R_ t k i j = true → S i j
  | 0, i, j, _, hi, hj, h => hs i j hi hj h
  | k + 1, i, j, hk, hi, hj, h => by
    simp only [R_, Bool.or_eq_true, Bool.and_eq_true] at h
    rcases h with h | h
    · exact R_least hs ht k i j (by omega) hi hj h
    · exact ht i k j hi (by omega) hj (R_least hs ht k i k (by omega) hi (by omega) h.1) (R_least hs ht k k j (by omega) (by omega) hj h.2)
theorem warsh_least {n : Nat} {t : List (List Bool)} (h : Sq n t) {S : Nat → Nat → Prop} (hs : ∀ i j, i < n → j < n → atT t i j = true → S i j) (ht : ∀ i k j, i < n → k < n → j < n → S i k → S k j → S i j) {i j : Nat} (hi : i < n) (hj : j < n) (hw : atT (warsh n t) i j = true) : S i j := by
  unfold warsh at hw
  rw [warsh_R h n (Nat.le_refl _) _ _ hi hj] at hw
  exact R_least hs ht n i j (Nat.le_refl _) hi hj hw
/-- The first step of a path. -/
theorem warsh_first {n : Nat} {t : List (List Bool)} (h : Sq n t) {i j : Nat} (hi : i < n) (hj : j < n) (hw : atT (warsh n t) i j = true) : atT t i j = true ∨ ∃ m, m < n ∧ atT t i m = true ∧ atT (warsh n t) m j = true := by
  have := warsh_least h (S := fun i j => atT (warsh n t) i j = true ∧ (atT t i j = true ∨ ∃ m, m < n ∧ atT t i m = true ∧ atT (warsh n t) m j = true)) (fun i j hi hj h1 => ⟨warsh_sub h hi hj h1, .inl h1⟩) (fun i k j hi hk hj ⟨h1, h2⟩ ⟨h3, h4⟩ => by
    refine ⟨warsh_trans h hi hk hj h1 h3, .inr ?_⟩
    rcases h2 with h2 | ⟨m, hm, h5, h6⟩
    · exact ⟨k, hk, h2, h3⟩
    · exact ⟨m, hm, h5, warsh_trans h hm hk hj h6 h3⟩) hi hj hw
  exact this.2
theorem comp_closure {n : Nat} {t : List (List Bool)} (h : Sq n t) : compT n t (warsh n t) = compT n (warsh n t) (warsh n t) := by
  refine tab_ext (n := n) (Sq.comp h.warsh) (Sq.comp h.warsh) fun i j hi hj => bool_ext ?_
  rw [atT_comp h.warsh hi hj, atT_comp h.warsh hi hj]
  constructor
  · rintro ⟨k, hk, h1, h2⟩; exact ⟨k, hk, warsh_sub h hi hk h1, h2⟩
  · rintro ⟨k, hk, h1, h2⟩
    rcases warsh_first h hi hk h1 with h3 | ⟨m, hm, h3, h4⟩
    · exact ⟨k, hk, h3, h2⟩
    · exact ⟨m, hm, h3, warsh_trans h hm hk hj h4 h2⟩
end Go.AM
namespace Go.Proofs.R
open Go.AM Go
set_option maxRecDepth 100000
set_option maxHeartbeats 2000000
theorem bset (b : List Bool) (i : Nat) (x : Bool) : (bools b).set i [.bool x] = bools (b.set i x) := bools_set b i x
theorem rinverse_r (n : Nat) (t : List (List Bool)) (hs : Sq n t) (hn : n ≤ 512) : Reads Try.prog 26 true [.rsl 1 (rowsR t)] (.rsl 1 (rowsR (invT n t))) := by
  have hlen := hs.len
  have hrl := rowsR_len t
  have hsi : Sq n (invT n t) := Sq.inv
  have hil := hsi.len
  have hai := fun i j hi hj => atT_inv (n := n) (t := t) (i := i) (j := j) hi hj
  generalize invT n t = u at *
  refine Reads.bodyF (rs := [.tmp 2]) Try.func26 rfl Try.ntmps26 rfl (by simp) ?_
  generalize hQr : retQ _ _ _ = Qr
  refine AW.seq fun K1 hK1 => ?_
  -- region 0
  refine AW.regionK 0 (fun _ => none) [0] [] ?_
  simp only [go_sem, reduceIte, reduceCtorEq, Nat.reduceAdd, Nat.reduceMul, Nat.reduceEqDiff, Nat.reduceLT, Nat.reduceLeDiff, Nat.reduceSub, Nat.reducePow, Nat.reduceBEq, Int.reduceToNat, List.reduceReplicate, hrl, hlen]
  repeat with_reducible refine cj ?_ ?_
  all_goals try first | omega
  refine hK1 _ _ _ ?_; clear hK1
  refine AW.seq fun K2 hK2 => ?_
  -- region 1
  refine AW.regionK 0 (fun _ => none) [0, 3] [] ?_
  simp only [go_sem, reduceIte, reduceCtorEq, Nat.reduceAdd, Nat.reduceMul, Nat.reduceEqDiff, Nat.reduceLT, Nat.reduceLeDiff, Nat.reduceSub, Nat.reducePow, Nat.reduceBEq, Int.reduceToNat, List.reduceReplicate, hrl, hlen]
  repeat with_reducible refine cj ?_ ?_
  all_goals try first | omega
  refine hK2 _ _ _ ?_; clear hK2
  refine AW.seq fun K3 hK3 => ?_
  refine AW.seq fun K4 hK4 => ?_
  -- region 2
  refine AW.regionK 0 (fun _ => none) [0, 3, 4] [] ?_
  simp only [go_sem, reduceIte, reduceCtorEq, Nat.reduceAdd, Nat.reduceMul, Nat.reduceEqDiff, Nat.reduceLT, Nat.reduceLeDiff, Nat.reduceSub, Nat.reducePow, Nat.reduceBEq, Int.reduceToNat, List.reduceReplicate, hrl, hlen]
  repeat with_reducible refine cj ?_ ?_
  all_goals try first | omega
  refine hK4 _ _ _ ?_; clear hK4
  refine AW.block ?_
  refine AW.nilOwn 3 200 1 (by simp only [go_sem, reduceIte, Nat.reduceEqDiff]) ?_
  refine AW.keep [0, 3, 4] [200] ?_
  simp only [go_sem, reduceIte, Nat.reduceEqDiff]
  -- loop 1
  refine AW.loopE (fun mm ee ss kk => ∃ (i g v : Nat), n - i = mm ∧ ee = [(0, .rsl 1 (rowsR t)), (3, .sl ⟨200, g, none⟩ 0 i none), (4, .int .i64 (i : Nat))] ∧ ss = [(200, some ⟨g, v, 1, rowsO (u.take i)⟩)] ∧ (i ≤ n)) ?_ ?_
  · refine ⟨_, 0, ?_, ?_, rfl, ?henv, ?hstore, ?hst⟩
    case henv =>
      repeat' (first | rfl | refine env_cons ?_ ?_ | refine st_cons ?_ ?_ ?_ ?_ | refine int_eq ?_ | refine bool_eq ?_ | refine rsl_eq ?_ | refine osl_eq ?_ | refine sl_eq ?_ ?_ ?_ | refine ptr_eq ?_ ?_ ?_ | refine agg_eq ?_ | refine es_cons ?_ ?_ | refine row_cons ?_ ?_)
      all_goals (first | (simp; done) | omega | (simp; omega))
    case hstore =>
      repeat' (first | rfl | refine env_cons ?_ ?_ | refine st_cons ?_ ?_ ?_ ?_ | refine int_eq ?_ | refine bool_eq ?_ | refine rsl_eq ?_ | refine osl_eq ?_ | refine sl_eq ?_ ?_ ?_ | refine ptr_eq ?_ ?_ ?_ | refine agg_eq ?_ | refine es_cons ?_ ?_ | refine row_cons ?_ ?_)
      all_goals (first | (simp; done) | omega | (simp; omega))
    case hst =>
      first | trivial | omega | (simp; done) | (simp; omega)
  rintro mm ee ss kk ⟨i, g, v, rfl, rfl, rfl, hI⟩
  generalize hQl1 : thenQ _ _ = Ql1
  refine AW.seq fun K5 hK5 => ?_
  refine AW.seq fun K6 hK6 => ?_
  -- region 3
  refine AW.regionK 0 (fun _ => none) [0, 3, 4, 10] [200] ?_
  simp only [go_sem, reduceIte, reduceCtorEq, Nat.reduceAdd, Nat.reduceMul, Nat.reduceEqDiff, Nat.reduceLT, Nat.reduceLeDiff, Nat.reduceSub, Nat.reducePow, Nat.reduceBEq, Int.reduceToNat, List.reduceReplicate, hrl, hlen]
  repeat with_reducible refine cj ?_ ?_
  all_goals try first | omega
  refine hK6 _ _ _ ?_; clear hK6
  -- cond 1
  refine AW.cond rfl (by simp only [go_sem, reduceIte, reduceCtorEq, Nat.reduceAdd, Nat.reduceMul, Nat.reduceEqDiff, Nat.reduceLT, Nat.reduceLeDiff, Nat.reduceSub, Nat.reducePow, Nat.reduceBEq, Int.reduceToNat, List.reduceReplicate]) ?_ ?_
  · intro hb
    try simp only [hB, decide_eq_true_eq, decide_eq_false_iff_not] at hb
    have hrw := hsi.rowLen (i := i) (by omega)
    have hti := take_succT (t := u) (i := i) (by omega)
    have htl : (rowsO (u.take i)).length = i := by rw [rowsO_len]; simp; omega
    have htk : (rowsO (u.take i)).take i = rowsO (u.take i) := List.take_of_length_le (by omega)
    have hrow : ∀ j, j < n → (rowT u i).getD j false = atT t j i := fun j hj => hai i j (by omega) hj
    generalize hb' : rowT u i = b at *
    have hap := rowsO_app (u.take i) b
    have hgl := fun x => app_get (rowsO (u.take i)) x htl
    have hsl := fun x y => app_set (rowsO (u.take i)) x y htl
    have hll := fun x => app_len (rowsO (u.take i)) x htl
    refine AW.skip ?_
    refine hK5 _ _ _ ?_; clear hK5
    refine AW.seq fun K7 hK7 => ?_
    refine AW.block ?_
    refine AW.seq fun K8 hK8 => ?_
    -- region 5
    refine AW.regionK 0 (fun _ => none) [0, 3, 4, 5] [15, 200] ?_
    simp only [go_sem, reduceIte, reduceCtorEq, Nat.reduceAdd, Nat.reduceMul, Nat.reduceEqDiff, Nat.reduceLT, Nat.reduceLeDiff, Nat.reduceSub, Nat.reducePow, Nat.reduceBEq, Int.reduceToNat, List.reduceReplicate, hrl, hlen]
    repeat with_reducible refine cj ?_ ?_
    all_goals try first | omega
    refine hK8 _ _ _ ?_; clear hK8
    refine AW.seq fun K9 hK9 => ?_
    refine AW.seq fun K10 hK10 => ?_
    -- region 6
    refine AW.regionK 0 (fun _ => none) [0, 3, 4, 5, 6] [15, 200] ?_
    simp only [go_sem, reduceIte, reduceCtorEq, Nat.reduceAdd, Nat.reduceMul, Nat.reduceEqDiff, Nat.reduceLT, Nat.reduceLeDiff, Nat.reduceSub, Nat.reducePow, Nat.reduceBEq, Int.reduceToNat, List.reduceReplicate, hrl, hlen]
    repeat with_reducible refine cj ?_ ?_
    all_goals try first | omega
    refine hK10 _ _ _ ?_; clear hK10
    refine AW.block ?_
    -- loop 2
    refine AW.loopE (fun mm ee ss kk => ∃ (j g17 v17 g v : Nat), n - j = mm ∧ ee = [(0, .rsl 1 (rowsR t)), (3, .sl ⟨200, g, none⟩ 0 i none), (4, .int .i64 (i : Nat)), (5, .sl ⟨15, g17, none⟩ 0 n none), (6, .int .i64 (j : Nat))] ∧ ss = [(15, some ⟨g17, v17, 1, bools (fillB b n j)⟩), (200, some ⟨g, v, 1, rowsO (u.take i)⟩)] ∧ (j ≤ n)) ?_ ?_
    · refine ⟨_, 0, ?_, ?_, ?_, ?_, rfl, ?henv, ?hstore, ?hst⟩
      case henv =>
        repeat' (first | rfl | refine env_cons ?_ ?_ | refine st_cons ?_ ?_ ?_ ?_ | refine int_eq ?_ | refine bool_eq ?_ | refine rsl_eq ?_ | refine osl_eq ?_ | refine sl_eq ?_ ?_ ?_ | refine ptr_eq ?_ ?_ ?_ | refine agg_eq ?_ | refine es_cons ?_ ?_ | refine row_cons ?_ ?_)
        all_goals (first | (simp; done) | omega | (simp; omega))
      case hstore =>
        repeat' (first | rfl | refine env_cons ?_ ?_ | refine st_cons ?_ ?_ ?_ ?_ | refine int_eq ?_ | refine bool_eq ?_ | refine rsl_eq ?_ | refine osl_eq ?_ | refine sl_eq ?_ ?_ ?_ | refine ptr_eq ?_ ?_ ?_ | refine agg_eq ?_ | refine es_cons ?_ ?_ | refine row_cons ?_ ?_)
        all_goals (rw [fillB_zero]; simp [bools])
      case hst =>
        first | trivial | omega | (simp; done) | (simp; omega)
    rintro mm ee ss kk ⟨j, g17, v17, g, v, rfl, rfl, rfl, hI⟩
    generalize hQl2 : thenQ _ _ = Ql2
    refine AW.seq fun K11 hK11 => ?_
    refine AW.seq fun K12 hK12 => ?_
    -- region 7
    refine AW.regionK 0 (fun _ => none) [0, 3, 4, 5, 6, 19] [15, 200] ?_
    simp only [go_sem, reduceIte, reduceCtorEq, Nat.reduceAdd, Nat.reduceMul, Nat.reduceEqDiff, Nat.reduceLT, Nat.reduceLeDiff, Nat.reduceSub, Nat.reducePow, Nat.reduceBEq, Int.reduceToNat, List.reduceReplicate, hrl, hlen]
    repeat with_reducible refine cj ?_ ?_
    all_goals try first | omega
    refine hK12 _ _ _ ?_; clear hK12
    -- cond 2
    refine AW.cond rfl (by simp only [go_sem, reduceIte, reduceCtorEq, Nat.reduceAdd, Nat.reduceMul, Nat.reduceEqDiff, Nat.reduceLT, Nat.reduceLeDiff, Nat.reduceSub, Nat.reducePow, Nat.reduceBEq, Int.reduceToNat, List.reduceReplicate]) ?_ ?_
    · intro hb
      try simp only [hB, decide_eq_true_eq, decide_eq_false_iff_not] at hb
      have hfs := fillB_succ hrw (i := j) (by omega)
      have hfl := fillB_len hrw (i := j) (by omega)
      have hgr := rowsR_get (t := t) (i := j) (by omega)
      have hrj := hs.rowLen (i := j) (by omega)
      have hgb := bools_getD (l := rowT t j) (i := i) (by omega)
      have hat : (rowT t j).getD i false = atT t j i := rfl
      rw [hat] at hgb
      rw [hrow j (by omega)] at hfs
      refine AW.skip ?_
      refine hK11 _ _ _ ?_; clear hK11
      refine AW.seq fun K13 hK13 => ?_
      refine AW.block ?_
      -- region 9
      refine AW.regionK 0 (fun _ => none) [0, 3, 4, 5, 6] [15, 200] ?_
      simp only [go_sem, reduceIte, reduceCtorEq, Nat.reduceAdd, Nat.reduceMul, Nat.reduceEqDiff, Nat.reduceLT, Nat.reduceLeDiff, Nat.reduceSub, Nat.reducePow, Nat.reduceBEq, Int.reduceToNat, List.reduceReplicate, hrl, hlen, hgr, hrj, hgb, hfl]
      repeat with_reducible refine cj ?_ ?_
      all_goals try first | omega
      refine hK13 _ _ _ ?_; clear hK13
      -- region 8
      refine AW.regionK 0 (fun _ => none) [0, 3, 4, 5, 6] [15, 200] ?_
      simp only [go_sem, reduceIte, reduceCtorEq, Nat.reduceAdd, Nat.reduceMul, Nat.reduceEqDiff, Nat.reduceLT, Nat.reduceLeDiff, Nat.reduceSub, Nat.reducePow, Nat.reduceBEq, Int.reduceToNat, List.reduceReplicate, hrl, hlen]
      repeat with_reducible refine cj ?_ ?_
      all_goals try first | omega
      rw [← hQl2]
      change Exists _
      refine ⟨_, ?hm, j + 1, ?_, ?_, ?_, ?_, rfl, ?henv, ?hstore, ?hst⟩
      case henv =>
        repeat' (first | rfl | refine env_cons ?_ ?_ | refine st_cons ?_ ?_ ?_ ?_ | refine int_eq ?_ | refine bool_eq ?_ | refine rsl_eq ?_ | refine osl_eq ?_ | refine sl_eq ?_ ?_ ?_ | refine ptr_eq ?_ ?_ ?_ | refine agg_eq ?_ | refine es_cons ?_ ?_ | refine row_cons ?_ ?_)
        all_goals (first | (simp; done) | omega | (simp; omega))
      case hstore =>
        repeat' (first | rfl | refine env_cons ?_ ?_ | refine st_cons ?_ ?_ ?_ ?_ | refine int_eq ?_ | refine bool_eq ?_ | refine rsl_eq ?_ | refine osl_eq ?_ | refine sl_eq ?_ ?_ ?_ | refine ptr_eq ?_ ?_ ?_ | refine agg_eq ?_ | refine es_cons ?_ ?_ | refine row_cons ?_ ?_)
        all_goals (rw [← hfs])
      case hst =>
        first | trivial | omega | (simp; done) | (simp; omega)
      case hm => omega
    · intro hb
      try simp only [hB, decide_eq_true_eq, decide_eq_false_iff_not] at hb
      have hj : j = n := by omega
      subst hj
      rw [fillB_all hrw]
      refine AW.exit ?_
      rw [← hQl2]
      refine hK9 _ _ _ ?_; clear hK9
      -- region 10
      refine AW.regionK 0 (fun _ => none) [0, 3, 4] [15, 200] ?_
      simp only [go_sem, reduceIte, reduceCtorEq, Nat.reduceAdd, Nat.reduceMul, Nat.reduceEqDiff, Nat.reduceLT, Nat.reduceLeDiff, Nat.reduceSub, Nat.reducePow, Nat.reduceBEq, Int.reduceToNat, List.reduceReplicate, hrl, hlen, htk, htl]
      repeat with_reducible refine cj ?_ ?_
      all_goals try first | omega | (simp [scP, scalar]; done) | exact scP_words _ | exact scP_ints _ | exact scP_bools _
      refine hK7 _ _ _ ?_; clear hK7
      refine AW.adoptK 200 i 0 15 ?_
      simp only [go_sem, reduceIte, Nat.reduceEqDiff, hgl, hsl, hll]
      refine ⟨by decide, by rw [hrw], noOsl_bools _, ?_⟩
      refine AW.keep [0, 3, 4] [200] ?_
      simp only [go_sem, reduceIte, Nat.reduceEqDiff, hap]
      -- region 4
      refine AW.regionK 0 (fun _ => none) [0, 3, 4] [200] ?_
      simp only [go_sem, reduceIte, reduceCtorEq, Nat.reduceAdd, Nat.reduceMul, Nat.reduceEqDiff, Nat.reduceLT, Nat.reduceLeDiff, Nat.reduceSub, Nat.reducePow, Nat.reduceBEq, Int.reduceToNat, List.reduceReplicate, hrl, hlen]
      repeat with_reducible refine cj ?_ ?_
      all_goals try first | omega
      rw [← hQl1]
      change Exists _
      refine ⟨_, ?hm, i + 1, ?_, ?_, rfl, ?henv, ?hstore, ?hst⟩
      case henv =>
        repeat' (first | rfl | refine env_cons ?_ ?_ | refine st_cons ?_ ?_ ?_ ?_ | refine int_eq ?_ | refine bool_eq ?_ | refine rsl_eq ?_ | refine osl_eq ?_ | refine sl_eq ?_ ?_ ?_ | refine ptr_eq ?_ ?_ ?_ | refine agg_eq ?_ | refine es_cons ?_ ?_ | refine row_cons ?_ ?_)
        all_goals (first | (simp; done) | omega | (simp; omega))
      case hstore =>
        repeat' (first | rfl | refine env_cons ?_ ?_ | refine st_cons ?_ ?_ ?_ ?_ | refine int_eq ?_ | refine bool_eq ?_ | refine rsl_eq ?_ | refine osl_eq ?_ | refine sl_eq ?_ ?_ ?_ | refine ptr_eq ?_ ?_ ?_ | refine agg_eq ?_ | refine es_cons ?_ ?_ | refine row_cons ?_ ?_)
        all_goals (rw [hti])
      case hst =>
        first | trivial | omega | (simp; done) | (simp; omega)
      case hm => omega
  · intro hb
    try simp only [hB, decide_eq_true_eq, decide_eq_false_iff_not] at hb
    refine AW.exit ?_
    rw [← hQl1]
    refine hK3 _ _ _ ?_; clear hK3
    refine AW.seq fun K14 hK14 => ?_
    -- region 11
    refine AW.regionK 0 (fun _ => none) [2] [200] ?_
    simp only [go_sem, reduceIte, reduceCtorEq, Nat.reduceAdd, Nat.reduceMul, Nat.reduceEqDiff, Nat.reduceLT, Nat.reduceLeDiff, Nat.reduceSub, Nat.reducePow, Nat.reduceBEq, Int.reduceToNat, List.reduceReplicate, hrl, hlen]
    repeat with_reducible refine cj ?_ ?_
    all_goals try first | omega
    refine hK14 _ _ _ ?_; clear hK14
    refine AW.ret ?_
    rw [← hQr]
    simp only [go_sem, reduceIte, reduceCtorEq, Nat.reduceAdd, Nat.reduceMul, Nat.reduceEqDiff, Nat.reduceLT, Nat.reduceLeDiff, Nat.reduceSub, Nat.reducePow, Nat.reduceBEq, Int.reduceToNat, List.reduceReplicate, hrl, hlen]
    have hi : i = n := by omega
    subst hi
    rw [List.take_of_length_le (by omega : u.length ≤ i), List.take_of_length_le (by rw [rowsO_len]; omega), vwcF_rowsO]
    exact Wk.refl _
theorem rcompose_r (n : Nat) (a b : List (List Bool)) (ha : Sq n a) (hb0 : Sq n b) (hn : n ≤ 512) : Reads Try.prog 29 true [.rsl 1 (rowsR a), .rsl 1 (rowsR b)] (.rsl 1 (rowsR (compT n a b))) := by
  have hla := ha.len
  have hlb := hb0.len
  have hra := rowsR_len a
  have hrb := rowsR_len b
  rw [comp_map hb0]
  refine Reads.bodyF (rs := [.tmp 4]) Try.func29 rfl Try.ntmps29 rfl (by simp) ?_
  generalize hQr : retQ _ _ _ = Qr
  refine AW.seq fun K1 hK1 => ?_
  -- region 0
  refine AW.regionK 0 (fun _ => none) [0, 1] [] ?_
  simp only [go_sem, reduceIte, reduceCtorEq, Nat.reduceAdd, Nat.reduceMul, Nat.reduceEqDiff, Nat.reduceLT, Nat.reduceLeDiff, Nat.reduceSub, Nat.reducePow, Nat.reduceBEq, Int.reduceToNat, List.reduceReplicate, hra, hla, hrb, hlb]
  repeat with_reducible refine cj ?_ ?_
  all_goals try first | omega
  refine hK1 _ _ _ ?_; clear hK1
  refine AW.seq fun K2 hK2 => ?_
  -- region 1
  refine AW.regionK 0 (fun _ => none) [0, 1, 5] [] ?_
  simp only [go_sem, reduceIte, reduceCtorEq, Nat.reduceAdd, Nat.reduceMul, Nat.reduceEqDiff, Nat.reduceLT, Nat.reduceLeDiff, Nat.reduceSub, Nat.reducePow, Nat.reduceBEq, Int.reduceToNat, List.reduceReplicate, hra, hla, hrb, hlb]
  repeat with_reducible refine cj ?_ ?_
  all_goals try first | omega
  refine hK2 _ _ _ ?_; clear hK2
  refine AW.seq fun K3 hK3 => ?_
  -- region 2
  refine AW.regionK 0 (fun _ => none) [0, 1, 5, 6] [] ?_
  simp only [go_sem, reduceIte, reduceCtorEq, Nat.reduceAdd, Nat.reduceMul, Nat.reduceEqDiff, Nat.reduceLT, Nat.reduceLeDiff, Nat.reduceSub, Nat.reducePow, Nat.reduceBEq, Int.reduceToNat, List.reduceReplicate, hra, hla, hrb, hlb]
  repeat with_reducible refine cj ?_ ?_
  all_goals try first | omega
  refine hK3 _ _ _ ?_; clear hK3
  refine AW.seq fun K4 hK4 => ?_
  refine AW.seq fun K5 hK5 => ?_
  -- region 3
  refine AW.regionK 0 (fun _ => none) [0, 1, 5, 6, 7] [] ?_
  simp only [go_sem, reduceIte, reduceCtorEq, Nat.reduceAdd, Nat.reduceMul, Nat.reduceEqDiff, Nat.reduceLT, Nat.reduceLeDiff, Nat.reduceSub, Nat.reducePow, Nat.reduceBEq, Int.reduceToNat, List.reduceReplicate, hra, hla, hrb, hlb]
  repeat with_reducible refine cj ?_ ?_
  all_goals try first | omega
  refine hK5 _ _ _ ?_; clear hK5
  refine AW.block ?_
  refine AW.nilOwn 6 200 1 (by simp only [go_sem, reduceIte, Nat.reduceEqDiff]) ?_
  refine AW.keep [0, 1, 5, 6, 7] [200] ?_
  simp only [go_sem, reduceIte, Nat.reduceEqDiff]
  -- loop 1
  refine AW.loopE (fun mm ee ss kk => ∃ (i g v : Nat), n - i = mm ∧ ee = [(0, .rsl 1 (rowsR a)), (1, .rsl 1 (rowsR b)), (5, .int .i64 n), (6, .sl ⟨200, g, none⟩ 0 i none), (7, .int .i64 (i : Nat))] ∧ ss = [(200, some ⟨g, v, 1, rowsO ((List.range i).map fun i => compRow a b n i n)⟩)] ∧ (i ≤ n)) ?_ ?_
  · refine ⟨_, 0, ?_, ?_, rfl, ?henv, ?hstore, ?hst⟩
    case henv =>
      repeat' (first | rfl | refine env_cons ?_ ?_ | refine st_cons ?_ ?_ ?_ ?_ | refine int_eq ?_ | refine bool_eq ?_ | refine rsl_eq ?_ | refine osl_eq ?_ | refine sl_eq ?_ ?_ ?_ | refine ptr_eq ?_ ?_ ?_ | refine agg_eq ?_ | refine es_cons ?_ ?_ | refine row_cons ?_ ?_)
      all_goals (first | (simp; done) | omega | (simp; omega))
    case hstore =>
      repeat' (first | rfl | refine env_cons ?_ ?_ | refine st_cons ?_ ?_ ?_ ?_ | refine int_eq ?_ | refine bool_eq ?_ | refine rsl_eq ?_ | refine osl_eq ?_ | refine sl_eq ?_ ?_ ?_ | refine ptr_eq ?_ ?_ ?_ | refine agg_eq ?_ | refine es_cons ?_ ?_ | refine row_cons ?_ ?_)
      all_goals (first | (simp; done) | omega | (simp; omega))
    case hst =>
      first | trivial | omega | (simp; done) | (simp; omega)
  rintro mm ee ss kk ⟨i, g, v, rfl, rfl, rfl, hI⟩
  generalize hQl1 : thenQ _ _ = Ql1
  refine AW.seq fun K6 hK6 => ?_
  refine AW.seq fun K7 hK7 => ?_
  -- region 4
  refine AW.regionK 0 (fun _ => none) [0, 1, 5, 6, 7, 15] [200] ?_
  simp only [go_sem, reduceIte, reduceCtorEq, Nat.reduceAdd, Nat.reduceMul, Nat.reduceEqDiff, Nat.reduceLT, Nat.reduceLeDiff, Nat.reduceSub, Nat.reducePow, Nat.reduceBEq, Int.reduceToNat, List.reduceReplicate, hra, hla, hrb, hlb]
  repeat with_reducible refine cj ?_ ?_
  all_goals try first | omega
  refine hK7 _ _ _ ?_; clear hK7
  -- cond 1
  refine AW.cond rfl (by simp only [go_sem, reduceIte, reduceCtorEq, Nat.reduceAdd, Nat.reduceMul, Nat.reduceEqDiff, Nat.reduceLT, Nat.reduceLeDiff, Nat.reduceSub, Nat.reducePow, Nat.reduceBEq, Int.reduceToNat, List.reduceReplicate]) ?_ ?_
  · intro hb
    try simp only [hB, decide_eq_true_eq, decide_eq_false_iff_not] at hb
    have hgr := rowsR_get (t := a) (i := i) (by omega)
    have hrw := ha.rowLen (i := i) (by omega)
    have hti := map_range_succ (fun i => compRow a b n i n) i
    have htl : (rowsO ((List.range i).map fun i => compRow a b n i n)).length = i := by rw [rowsO_len]; simp
    have hap := rowsO_app ((List.range i).map fun i => compRow a b n i n) (compRow a b n i n)
    rw [← hti] at hap
    generalize (List.range i).map (fun i => compRow a b n i n) = V at *
    have htk : (rowsO V).take i = rowsO V := List.take_of_length_le (by omega)
    have hgl := fun x => app_get (rowsO V) x htl
    have hsl := fun x y => app_set (rowsO V) x y htl
    have hll := fun x => app_len (rowsO V) x htl
    have hcl := fun m hm => compRow_len hb0 (a := a) i m hm
    refine AW.skip ?_
    refine hK6 _ _ _ ?_; clear hK6
    refine AW.seq fun K8 hK8 => ?_
    refine AW.block ?_
    refine AW.seq fun K9 hK9 => ?_
    -- region 6
    refine AW.regionK 0 (fun _ => none) [0, 1, 5, 6, 7, 8] [19, 200] ?_
    simp only [go_sem, reduceIte, reduceCtorEq, Nat.reduceAdd, Nat.reduceMul, Nat.reduceEqDiff, Nat.reduceLT, Nat.reduceLeDiff, Nat.reduceSub, Nat.reducePow, Nat.reduceBEq, Int.reduceToNat, List.reduceReplicate, hra, hla, hrb, hlb]
    repeat with_reducible refine cj ?_ ?_
    all_goals try first | omega
    refine hK9 _ _ _ ?_; clear hK9
    refine AW.seq fun K10 hK10 => ?_
    refine AW.seq fun K11 hK11 => ?_
    -- region 7
    refine AW.regionK 0 (fun _ => none) [0, 1, 5, 6, 7, 8, 9] [19, 200] ?_
    simp only [go_sem, reduceIte, reduceCtorEq, Nat.reduceAdd, Nat.reduceMul, Nat.reduceEqDiff, Nat.reduceLT, Nat.reduceLeDiff, Nat.reduceSub, Nat.reducePow, Nat.reduceBEq, Int.reduceToNat, List.reduceReplicate, hra, hla, hrb, hlb]
    repeat with_reducible refine cj ?_ ?_
    all_goals try first | omega
    refine hK11 _ _ _ ?_; clear hK11
    refine AW.block ?_
    -- loop 2
    refine AW.loopE (fun mm ee ss kk => ∃ (k g19 v19 g v : Nat), n - k = mm ∧ ee = [(0, .rsl 1 (rowsR a)), (1, .rsl 1 (rowsR b)), (5, .int .i64 n), (6, .sl ⟨200, g, none⟩ 0 i none), (7, .int .i64 (i : Nat)), (8, .sl ⟨19, g19, none⟩ 0 n none), (9, .int .i64 (k : Nat))] ∧ ss = [(19, some ⟨g19, v19, 1, bools (compRow a b n i k)⟩), (200, some ⟨g, v, 1, rowsO V⟩)] ∧ (k ≤ n)) ?_ ?_
    · refine ⟨_, 0, ?_, ?_, ?_, ?_, rfl, ?henv, ?hstore, ?hst⟩
      case henv =>
        repeat' (first | rfl | refine env_cons ?_ ?_ | refine st_cons ?_ ?_ ?_ ?_ | refine int_eq ?_ | refine bool_eq ?_ | refine rsl_eq ?_ | refine osl_eq ?_ | refine sl_eq ?_ ?_ ?_ | refine ptr_eq ?_ ?_ ?_ | refine agg_eq ?_ | refine es_cons ?_ ?_ | refine row_cons ?_ ?_)
        all_goals (first | (simp; done) | omega | (simp; omega))
      case hstore =>
        repeat' (first | rfl | refine env_cons ?_ ?_ | refine st_cons ?_ ?_ ?_ ?_ | refine int_eq ?_ | refine bool_eq ?_ | refine rsl_eq ?_ | refine osl_eq ?_ | refine sl_eq ?_ ?_ ?_ | refine ptr_eq ?_ ?_ ?_ | refine agg_eq ?_ | refine es_cons ?_ ?_ | refine row_cons ?_ ?_)
        all_goals (simp [compRow, iter, bools])
      case hst =>
        first | trivial | omega | (simp; done) | (simp; omega)
    rintro mm ee ss kk ⟨k, g19, v19, g, v, rfl, rfl, rfl, hI⟩
    generalize hQl2 : thenQ _ _ = Ql2
    refine AW.seq fun K12 hK12 => ?_
    refine AW.seq fun K13 hK13 => ?_
    -- region 8
    refine AW.regionK 0 (fun _ => none) [0, 1, 5, 6, 7, 8, 9, 22] [19, 200] ?_
    simp only [go_sem, reduceIte, reduceCtorEq, Nat.reduceAdd, Nat.reduceMul, Nat.reduceEqDiff, Nat.reduceLT, Nat.reduceLeDiff, Nat.reduceSub, Nat.reducePow, Nat.reduceBEq, Int.reduceToNat, List.reduceReplicate, hra, hla, hrb, hlb]
    repeat with_reducible refine cj ?_ ?_
    all_goals try first | omega
    refine hK13 _ _ _ ?_; clear hK13
    -- cond 2
    refine AW.cond rfl (by simp only [go_sem, reduceIte, reduceCtorEq, Nat.reduceAdd, Nat.reduceMul, Nat.reduceEqDiff, Nat.reduceLT, Nat.reduceLeDiff, Nat.reduceSub, Nat.reducePow, Nat.reduceBEq, Int.reduceToNat, List.reduceReplicate]) ?_ ?_
    · intro hb
      try simp only [hB, decide_eq_true_eq, decide_eq_false_iff_not] at hb
      have hgb := bools_getD (l := rowT a i) (i := k) (by omega)
      have hat : (rowT a i).getD k false = atT a i k := rfl
      rw [hat] at hgb
      have hcs := compRow_succ a b n i k
      have hck := hcl k (by omega)
      have hgk := rowsR_get (t := b) (i := k) (by omega)
      have hrk := hb0.rowLen (i := k) (by omega)
      generalize hr : compRow a b n i k = r at *
      generalize hq : rowT b k = q at *
      refine AW.skip ?_
      refine hK12 _ _ _ ?_; clear hK12
      refine AW.seq fun K14 hK14 => ?_
      refine AW.block ?_
      refine AW.seq fun K15 hK15 => ?_
      refine AW.seq fun K16 hK16 => ?_
      -- region 10
      refine AW.regionK 0 (fun _ => none) [0, 1, 5, 6, 7, 8, 9, 32] [19, 200] ?_
      simp only [go_sem, reduceIte, reduceCtorEq, Nat.reduceAdd, Nat.reduceMul, Nat.reduceEqDiff, Nat.reduceLT, Nat.reduceLeDiff, Nat.reduceSub, Nat.reducePow, Nat.reduceBEq, Int.reduceToNat, List.reduceReplicate, hra, hla, hrb, hlb, hgr, hgb, hrw]
      repeat with_reducible refine cj ?_ ?_
      all_goals try first | omega
      refine hK16 _ _ _ ?_; clear hK16
      -- cond 3
      refine AW.cond rfl (by simp only [go_sem, reduceIte, reduceCtorEq, Nat.reduceAdd, Nat.reduceMul, Nat.reduceEqDiff, Nat.reduceLT, Nat.reduceLeDiff, Nat.reduceSub, Nat.reducePow, Nat.reduceBEq, Int.reduceToNat, List.reduceReplicate]) ?_ ?_
      · intro hb
        try simp only [hB, decide_eq_true_eq, decide_eq_false_iff_not] at hb
        rw [if_neg (by rw [hb]; simp)] at hcs
        refine AW.exit ?_
        refine hK14 _ _ _ ?_; clear hK14
        -- region 9
        refine AW.regionK 0 (fun _ => none) [0, 1, 5, 6, 7, 8, 9] [19, 200] ?_
        simp only [go_sem, reduceIte, reduceCtorEq, Nat.reduceAdd, Nat.reduceMul, Nat.reduceEqDiff, Nat.reduceLT, Nat.reduceLeDiff, Nat.reduceSub, Nat.reducePow, Nat.reduceBEq, Int.reduceToNat, List.reduceReplicate, hra, hla, hrb, hlb]
        repeat with_reducible refine cj ?_ ?_
        all_goals try first | omega
        rw [← hQl2]
        change Exists _
        refine ⟨_, ?hm, k + 1, ?_, ?_, ?_, ?_, rfl, ?henv, ?hstore, ?hst⟩
        case henv =>
          repeat' (first | rfl | refine env_cons ?_ ?_ | refine st_cons ?_ ?_ ?_ ?_ | refine int_eq ?_ | refine bool_eq ?_ | refine rsl_eq ?_ | refine osl_eq ?_ | refine sl_eq ?_ ?_ ?_ | refine ptr_eq ?_ ?_ ?_ | refine agg_eq ?_ | refine es_cons ?_ ?_ | refine row_cons ?_ ?_)
          all_goals (first | (simp; done) | omega | (simp; omega))
        case hstore =>
          repeat' (first | rfl | refine env_cons ?_ ?_ | refine st_cons ?_ ?_ ?_ ?_ | refine int_eq ?_ | refine bool_eq ?_ | refine rsl_eq ?_ | refine osl_eq ?_ | refine sl_eq ?_ ?_ ?_ | refine ptr_eq ?_ ?_ ?_ | refine agg_eq ?_ | refine es_cons ?_ ?_ | refine row_cons ?_ ?_)
          all_goals (rw [hcs])
        case hst =>
          first | trivial | omega | (simp; done) | (simp; omega)
        case hm => omega
      · intro hb
        try simp only [hB, decide_eq_true_eq, decide_eq_false_iff_not] at hb
        rw [if_pos hb] at hcs
        refine AW.skip ?_
        refine hK15 _ _ _ ?_; clear hK15
        refine AW.seq fun K17 hK17 => ?_
        -- region 11
        refine AW.regionK 0 (fun _ => none) [0, 1, 5, 6, 7, 8, 9, 10] [19, 200] ?_
        simp only [go_sem, reduceIte, reduceCtorEq, Nat.reduceAdd, Nat.reduceMul, Nat.reduceEqDiff, Nat.reduceLT, Nat.reduceLeDiff, Nat.reduceSub, Nat.reducePow, Nat.reduceBEq, Int.reduceToNat, List.reduceReplicate, hra, hla, hrb, hlb]
        repeat with_reducible refine cj ?_ ?_
        all_goals try first | omega
        refine hK17 _ _ _ ?_; clear hK17
        refine AW.block ?_
        -- loop 3
        refine AW.loopE (fun mm ee ss kk => ∃ (j g19 v19 g v : Nat), n - j = mm ∧ ee = [(0, .rsl 1 (rowsR a)), (1, .rsl 1 (rowsR b)), (5, .int .i64 n), (6, .sl ⟨200, g, none⟩ 0 i none), (7, .int .i64 (i : Nat)), (8, .sl ⟨19, g19, none⟩ 0 n none), (9, .int .i64 (k : Nat)), (10, .int .i64 (j : Nat))] ∧ ss = [(19, some ⟨g19, v19, 1, bools (orB r q j)⟩), (200, some ⟨g, v, 1, rowsO V⟩)] ∧ (j ≤ n)) ?_ ?_
        · refine ⟨_, 0, ?_, ?_, ?_, ?_, rfl, ?henv, ?hstore, ?hst⟩
          case henv =>
            repeat' (first | rfl | refine env_cons ?_ ?_ | refine st_cons ?_ ?_ ?_ ?_ | refine int_eq ?_ | refine bool_eq ?_ | refine rsl_eq ?_ | refine osl_eq ?_ | refine sl_eq ?_ ?_ ?_ | refine ptr_eq ?_ ?_ ?_ | refine agg_eq ?_ | refine es_cons ?_ ?_ | refine row_cons ?_ ?_)
            all_goals (first | (simp; done) | omega | (simp; omega))
          case hstore =>
            repeat' (first | rfl | refine env_cons ?_ ?_ | refine st_cons ?_ ?_ ?_ ?_ | refine int_eq ?_ | refine bool_eq ?_ | refine rsl_eq ?_ | refine osl_eq ?_ | refine sl_eq ?_ ?_ ?_ | refine ptr_eq ?_ ?_ ?_ | refine agg_eq ?_ | refine es_cons ?_ ?_ | refine row_cons ?_ ?_)
            all_goals (rw [orB_zero])
          case hst =>
            first | trivial | omega | (simp; done) | (simp; omega)
        rintro mm ee ss kk ⟨j, g19, v19, g, v, rfl, rfl, rfl, hI⟩
        generalize hQl3 : thenQ _ _ = Ql3
        refine AW.seq fun K18 hK18 => ?_
        refine AW.seq fun K19 hK19 => ?_
        -- region 12
        refine AW.regionK 0 (fun _ => none) [0, 1, 5, 6, 7, 8, 9, 10, 35] [19, 200] ?_
        simp only [go_sem, reduceIte, reduceCtorEq, Nat.reduceAdd, Nat.reduceMul, Nat.reduceEqDiff, Nat.reduceLT, Nat.reduceLeDiff, Nat.reduceSub, Nat.reducePow, Nat.reduceBEq, Int.reduceToNat, List.reduceReplicate, hra, hla, hrb, hlb]
        repeat with_reducible refine cj ?_ ?_
        all_goals try first | omega
        refine hK19 _ _ _ ?_; clear hK19
        -- cond 4
        refine AW.cond rfl (by simp only [go_sem, reduceIte, reduceCtorEq, Nat.reduceAdd, Nat.reduceMul, Nat.reduceEqDiff, Nat.reduceLT, Nat.reduceLeDiff, Nat.reduceSub, Nat.reducePow, Nat.reduceBEq, Int.reduceToNat, List.reduceReplicate]) ?_ ?_
        · intro hb
          try simp only [hB, decide_eq_true_eq, decide_eq_false_iff_not] at hb
          have hgq := bools_getD (l := q) (i := j) (by omega)
          have hos := orB_step (a := r) (b := q) (by omega) (j := j) (by omega)
          have hol := orB_len (a := r) (b := q) (by omega) j
          refine AW.skip ?_
          refine hK18 _ _ _ ?_; clear hK18
          refine AW.seq fun K20 hK20 => ?_
          refine AW.block ?_
          refine AW.seq fun K21 hK21 => ?_
          -- region 14
          refine AW.regionK 0 (fun _ => none) [0, 1, 5, 6, 7, 8, 9, 10, 44] [19, 200] ?_
          simp only [go_sem, reduceIte, reduceCtorEq, Nat.reduceAdd, Nat.reduceMul, Nat.reduceEqDiff, Nat.reduceLT, Nat.reduceLeDiff, Nat.reduceSub, Nat.reducePow, Nat.reduceBEq, Int.reduceToNat, List.reduceReplicate, hra, hla, hrb, hlb, hgk, hrk, hgq]
          repeat with_reducible refine cj ?_ ?_
          all_goals try first | omega
          refine hK21 _ _ _ ?_; clear hK21
          -- cond 5
          refine AW.cond rfl (by simp only [go_sem, reduceIte, reduceCtorEq, Nat.reduceAdd, Nat.reduceMul, Nat.reduceEqDiff, Nat.reduceLT, Nat.reduceLeDiff, Nat.reduceSub, Nat.reducePow, Nat.reduceBEq, Int.reduceToNat, List.reduceReplicate]) ?_ ?_
          · intro hb
            try simp only [hB, decide_eq_true_eq, decide_eq_false_iff_not] at hb
            rw [if_pos hb] at hos
            -- region 15
            refine AW.regionK 0 (fun _ => none) [0, 1, 5, 6, 7, 8, 9, 10] [19, 200] ?_
            simp only [go_sem, reduceIte, reduceCtorEq, Nat.reduceAdd, Nat.reduceMul, Nat.reduceEqDiff, Nat.reduceLT, Nat.reduceLeDiff, Nat.reduceSub, Nat.reducePow, Nat.reduceBEq, Int.reduceToNat, List.reduceReplicate, hra, hla, hrb, hlb, hol]
            repeat with_reducible refine cj ?_ ?_
            all_goals try first | omega
            refine hK20 _ _ _ ?_; clear hK20
            -- region 13
            refine AW.regionK 0 (fun _ => none) [0, 1, 5, 6, 7, 8, 9, 10] [19, 200] ?_
            simp only [go_sem, reduceIte, reduceCtorEq, Nat.reduceAdd, Nat.reduceMul, Nat.reduceEqDiff, Nat.reduceLT, Nat.reduceLeDiff, Nat.reduceSub, Nat.reducePow, Nat.reduceBEq, Int.reduceToNat, List.reduceReplicate, hra, hla, hrb, hlb]
            repeat with_reducible refine cj ?_ ?_
            all_goals try first | omega
            rw [← hQl3]
            change Exists _
            refine ⟨_, ?hm, j + 1, ?_, ?_, ?_, ?_, rfl, ?henv, ?hstore, ?hst⟩
            case henv =>
              repeat' (first | rfl | refine env_cons ?_ ?_ | refine st_cons ?_ ?_ ?_ ?_ | refine int_eq ?_ | refine bool_eq ?_ | refine rsl_eq ?_ | refine osl_eq ?_ | refine sl_eq ?_ ?_ ?_ | refine ptr_eq ?_ ?_ ?_ | refine agg_eq ?_ | refine es_cons ?_ ?_ | refine row_cons ?_ ?_)
              all_goals (first | (simp; done) | omega | (simp; omega))
            case hstore =>
              repeat' (first | rfl | refine env_cons ?_ ?_ | refine st_cons ?_ ?_ ?_ ?_ | refine int_eq ?_ | refine bool_eq ?_ | refine rsl_eq ?_ | refine osl_eq ?_ | refine sl_eq ?_ ?_ ?_ | refine ptr_eq ?_ ?_ ?_ | refine agg_eq ?_ | refine es_cons ?_ ?_ | refine row_cons ?_ ?_)
              all_goals (rw [hos])
            case hst =>
              first | trivial | omega | (simp; done) | (simp; omega)
            case hm => omega
          · intro hb
            try simp only [hB, decide_eq_true_eq, decide_eq_false_iff_not] at hb
            rw [if_neg (by rw [hb]; simp)] at hos
            refine AW.skip ?_
            refine hK20 _ _ _ ?_; clear hK20
            -- region 13
            refine AW.regionK 0 (fun _ => none) [0, 1, 5, 6, 7, 8, 9, 10] [19, 200] ?_
            simp only [go_sem, reduceIte, reduceCtorEq, Nat.reduceAdd, Nat.reduceMul, Nat.reduceEqDiff, Nat.reduceLT, Nat.reduceLeDiff, Nat.reduceSub, Nat.reducePow, Nat.reduceBEq, Int.reduceToNat, List.reduceReplicate, hra, hla, hrb, hlb]
            repeat with_reducible refine cj ?_ ?_
            all_goals try first | omega
            rw [← hQl3]
            change Exists _
            refine ⟨_, ?hm, j + 1, ?_, ?_, ?_, ?_, rfl, ?henv, ?hstore, ?hst⟩
            case henv =>
              repeat' (first | rfl | refine env_cons ?_ ?_ | refine st_cons ?_ ?_ ?_ ?_ | refine int_eq ?_ | refine bool_eq ?_ | refine rsl_eq ?_ | refine osl_eq ?_ | refine sl_eq ?_ ?_ ?_ | refine ptr_eq ?_ ?_ ?_ | refine agg_eq ?_ | refine es_cons ?_ ?_ | refine row_cons ?_ ?_)
              all_goals (first | (simp; done) | omega | (simp; omega))
            case hstore =>
              repeat' (first | rfl | refine env_cons ?_ ?_ | refine st_cons ?_ ?_ ?_ ?_ | refine int_eq ?_ | refine bool_eq ?_ | refine rsl_eq ?_ | refine osl_eq ?_ | refine sl_eq ?_ ?_ ?_ | refine ptr_eq ?_ ?_ ?_ | refine agg_eq ?_ | refine es_cons ?_ ?_ | refine row_cons ?_ ?_)
              all_goals (rw [hos])
            case hst =>
              first | trivial | omega | (simp; done) | (simp; omega)
            case hm => omega
        · intro hb
          try simp only [hB, decide_eq_true_eq, decide_eq_false_iff_not] at hb
          have hj : j = n := by omega
          subst hj
          rw [orB_all (by omega) (by omega)]
          refine AW.exit ?_
          rw [← hQl3]
          refine hK14 _ _ _ ?_; clear hK14
          -- region 9
          refine AW.regionK 0 (fun _ => none) [0, 1, 5, 6, 7, 8, 9] [19, 200] ?_
          simp only [go_sem, reduceIte, reduceCtorEq, Nat.reduceAdd, Nat.reduceMul, Nat.reduceEqDiff, Nat.reduceLT, Nat.reduceLeDiff, Nat.reduceSub, Nat.reducePow, Nat.reduceBEq, Int.reduceToNat, List.reduceReplicate, hra, hla, hrb, hlb]
          repeat with_reducible refine cj ?_ ?_
          all_goals try first | omega
          rw [← hQl2]
          change Exists _
          refine ⟨_, ?hm, k + 1, ?_, ?_, ?_, ?_, rfl, ?henv, ?hstore, ?hst⟩
          case henv =>
            repeat' (first | rfl | refine env_cons ?_ ?_ | refine st_cons ?_ ?_ ?_ ?_ | refine int_eq ?_ | refine bool_eq ?_ | refine rsl_eq ?_ | refine osl_eq ?_ | refine sl_eq ?_ ?_ ?_ | refine ptr_eq ?_ ?_ ?_ | refine agg_eq ?_ | refine es_cons ?_ ?_ | refine row_cons ?_ ?_)
            all_goals (first | (simp; done) | omega | (simp; omega))
          case hstore =>
            repeat' (first | rfl | refine env_cons ?_ ?_ | refine st_cons ?_ ?_ ?_ ?_ | refine int_eq ?_ | refine bool_eq ?_ | refine rsl_eq ?_ | refine osl_eq ?_ | refine sl_eq ?_ ?_ ?_ | refine ptr_eq ?_ ?_ ?_ | refine agg_eq ?_ | refine es_cons ?_ ?_ | refine row_cons ?_ ?_)
            all_goals (rw [hcs])
          case hst =>
            first | trivial | omega | (simp; done) | (simp; omega)
          case hm => omega
    · intro hb
      try simp only [hB, decide_eq_true_eq, decide_eq_false_iff_not] at hb
      have hk : k = n := by omega
      subst hk
      have hcn := hcl k (Nat.le_refl _)
      refine AW.exit ?_
      rw [← hQl2]
      refine hK10 _ _ _ ?_; clear hK10
      -- region 16
      refine AW.regionK 0 (fun _ => none) [0, 1, 5, 6, 7] [19, 200] ?_
      simp only [go_sem, reduceIte, reduceCtorEq, Nat.reduceAdd, Nat.reduceMul, Nat.reduceEqDiff, Nat.reduceLT, Nat.reduceLeDiff, Nat.reduceSub, Nat.reducePow, Nat.reduceBEq, Int.reduceToNat, List.reduceReplicate, hra, hla, hrb, hlb, htk, htl]
      repeat with_reducible refine cj ?_ ?_
      all_goals try first | omega | (simp [scP, scalar]; done) | exact scP_words _ | exact scP_ints _ | exact scP_bools _
      refine hK8 _ _ _ ?_; clear hK8
      refine AW.adoptK 200 i 0 19 ?_
      simp only [go_sem, reduceIte, Nat.reduceEqDiff, hgl, hsl, hll]
      refine ⟨by decide, by rw [hcn], noOsl_bools _, ?_⟩
      refine AW.keep [0, 1, 5, 6, 7] [200] ?_
      simp only [go_sem, reduceIte, Nat.reduceEqDiff, hap]
      -- region 5
      refine AW.regionK 0 (fun _ => none) [0, 1, 5, 6, 7] [200] ?_
      simp only [go_sem, reduceIte, reduceCtorEq, Nat.reduceAdd, Nat.reduceMul, Nat.reduceEqDiff, Nat.reduceLT, Nat.reduceLeDiff, Nat.reduceSub, Nat.reducePow, Nat.reduceBEq, Int.reduceToNat, List.reduceReplicate, hra, hla, hrb, hlb]
      repeat with_reducible refine cj ?_ ?_
      all_goals try first | omega
      rw [← hQl1]
      change Exists _
      refine ⟨_, ?hm, i + 1, ?_, ?_, rfl, ?henv, ?hstore, ?hst⟩
      case henv =>
        repeat' (first | rfl | refine env_cons ?_ ?_ | refine st_cons ?_ ?_ ?_ ?_ | refine int_eq ?_ | refine bool_eq ?_ | refine rsl_eq ?_ | refine osl_eq ?_ | refine sl_eq ?_ ?_ ?_ | refine ptr_eq ?_ ?_ ?_ | refine agg_eq ?_ | refine es_cons ?_ ?_ | refine row_cons ?_ ?_)
        all_goals (first | (simp; done) | omega | (simp; omega))
      case hstore =>
        repeat' (first | rfl | refine env_cons ?_ ?_ | refine st_cons ?_ ?_ ?_ ?_ | refine int_eq ?_ | refine bool_eq ?_ | refine rsl_eq ?_ | refine osl_eq ?_ | refine sl_eq ?_ ?_ ?_ | refine ptr_eq ?_ ?_ ?_ | refine agg_eq ?_ | refine es_cons ?_ ?_ | refine row_cons ?_ ?_)
        all_goals (rw [List.range_succ])
      case hst =>
        first | trivial | omega | (simp; done) | (simp; omega)
      case hm => omega
  · intro hb
    try simp only [hB, decide_eq_true_eq, decide_eq_false_iff_not] at hb
    refine AW.exit ?_
    rw [← hQl1]
    refine hK4 _ _ _ ?_; clear hK4
    refine AW.seq fun K22 hK22 => ?_
    -- region 17
    refine AW.regionK 0 (fun _ => none) [4] [200] ?_
    simp only [go_sem, reduceIte, reduceCtorEq, Nat.reduceAdd, Nat.reduceMul, Nat.reduceEqDiff, Nat.reduceLT, Nat.reduceLeDiff, Nat.reduceSub, Nat.reducePow, Nat.reduceBEq, Int.reduceToNat, List.reduceReplicate, hra, hla, hrb, hlb]
    repeat with_reducible refine cj ?_ ?_
    all_goals try first | omega
    refine hK22 _ _ _ ?_; clear hK22
    refine AW.ret ?_
    rw [← hQr]
    simp only [go_sem, reduceIte, reduceCtorEq, Nat.reduceAdd, Nat.reduceMul, Nat.reduceEqDiff, Nat.reduceLT, Nat.reduceLeDiff, Nat.reduceSub, Nat.reducePow, Nat.reduceBEq, Int.reduceToNat, List.reduceReplicate, hra, hla, hrb, hlb]
    have hi : i = n := by omega
    subst hi
    rw [List.take_of_length_le (by rw [rowsO_len]; simp), vwcF_rowsO]
    exact Wk.refl _
theorem rclosure_r (n : Nat) (t : List (List Bool)) (hs : Sq n t) (hn : n ≤ 512) : Reads Try.prog 25 true [.rsl 1 (rowsR t)] (.rsl 1 (rowsR (warsh n t))) := by
  have hlen := hs.len
  have hrl := rowsR_len t
  refine Reads.bodyF (rs := [.tmp 2]) Try.func25 rfl Try.ntmps25 rfl (by simp) ?_
  generalize hQr : retQ _ _ _ = Qr
  refine AW.seq fun K1 hK1 => ?_
  -- region 0
  refine AW.regionK 0 (fun _ => none) [0] [] ?_
  simp only [go_sem, reduceIte, reduceCtorEq, Nat.reduceAdd, Nat.reduceMul, Nat.reduceEqDiff, Nat.reduceLT, Nat.reduceLeDiff, Nat.reduceSub, Nat.reducePow, Nat.reduceBEq, Int.reduceToNat, List.reduceReplicate, hrl, hlen]
  repeat with_reducible refine cj ?_ ?_
  all_goals try first | omega
  refine hK1 _ _ _ ?_; clear hK1
  refine AW.seq fun K2 hK2 => ?_
  -- region 1
  refine AW.regionK 0 (fun _ => none) [0, 3] [] ?_
  simp only [go_sem, reduceIte, reduceCtorEq, Nat.reduceAdd, Nat.reduceMul, Nat.reduceEqDiff, Nat.reduceLT, Nat.reduceLeDiff, Nat.reduceSub, Nat.reducePow, Nat.reduceBEq, Int.reduceToNat, List.reduceReplicate, hrl, hlen]
  repeat with_reducible refine cj ?_ ?_
  all_goals try first | omega
  refine hK2 _ _ _ ?_; clear hK2
  refine AW.seq fun K3 hK3 => ?_
  -- region 2
  refine AW.regionK 0 (fun _ => none) [0, 3, 4] [] ?_
  simp only [go_sem, reduceIte, reduceCtorEq, Nat.reduceAdd, Nat.reduceMul, Nat.reduceEqDiff, Nat.reduceLT, Nat.reduceLeDiff, Nat.reduceSub, Nat.reducePow, Nat.reduceBEq, Int.reduceToNat, List.reduceReplicate, hrl, hlen]
  repeat with_reducible refine cj ?_ ?_
  all_goals try first | omega
  refine hK3 _ _ _ ?_; clear hK3
  refine AW.seq fun K4 hK4 => ?_
  refine AW.seq fun K5 hK5 => ?_
  -- region 3
  refine AW.regionK 0 (fun _ => none) [0, 3, 4, 5] [] ?_
  simp only [go_sem, reduceIte, reduceCtorEq, Nat.reduceAdd, Nat.reduceMul, Nat.reduceEqDiff, Nat.reduceLT, Nat.reduceLeDiff, Nat.reduceSub, Nat.reducePow, Nat.reduceBEq, Int.reduceToNat, List.reduceReplicate, hrl, hlen]
  repeat with_reducible refine cj ?_ ?_
  all_goals try first | omega
  refine hK5 _ _ _ ?_; clear hK5
  refine AW.block ?_
  refine AW.nilOwn 4 200 1 (by simp only [go_sem, reduceIte, Nat.reduceEqDiff]) ?_
  refine AW.keep [0, 3, 4, 5] [200] ?_
  simp only [go_sem, reduceIte, Nat.reduceEqDiff]
  -- loop 1
  refine AW.loopE (fun mm ee ss kk => ∃ (i g v : Nat), n - i = mm ∧ ee = [(0, .rsl 1 (rowsR t)), (3, .int .i64 n), (4, .sl ⟨200, g, none⟩ 0 i none), (5, .int .i64 (i : Nat))] ∧ ss = [(200, some ⟨g, v, 1, rowsO (t.take i)⟩)] ∧ (i ≤ n)) ?_ ?_
  · refine ⟨_, 0, ?_, ?_, rfl, ?henv, ?hstore, ?hst⟩
    case henv =>
      repeat' (first | rfl | refine env_cons ?_ ?_ | refine st_cons ?_ ?_ ?_ ?_ | refine int_eq ?_ | refine bool_eq ?_ | refine rsl_eq ?_ | refine osl_eq ?_ | refine sl_eq ?_ ?_ ?_ | refine ptr_eq ?_ ?_ ?_ | refine agg_eq ?_ | refine es_cons ?_ ?_ | refine row_cons ?_ ?_)
      all_goals (first | (simp; done) | omega | (simp; omega))
    case hstore =>
      repeat' (first | rfl | refine env_cons ?_ ?_ | refine st_cons ?_ ?_ ?_ ?_ | refine int_eq ?_ | refine bool_eq ?_ | refine rsl_eq ?_ | refine osl_eq ?_ | refine sl_eq ?_ ?_ ?_ | refine ptr_eq ?_ ?_ ?_ | refine agg_eq ?_ | refine es_cons ?_ ?_ | refine row_cons ?_ ?_)
      all_goals (first | (simp; done) | omega | (simp; omega))
    case hst =>
      first | trivial | omega | (simp; done) | (simp; omega)
  rintro mm ee ss kk ⟨i, g, v, rfl, rfl, rfl, hI⟩
  generalize hQl1 : thenQ _ _ = Ql1
  refine AW.seq fun K6 hK6 => ?_
  refine AW.seq fun K7 hK7 => ?_
  -- region 4
  refine AW.regionK 0 (fun _ => none) [0, 3, 4, 5, 13] [200] ?_
  simp only [go_sem, reduceIte, reduceCtorEq, Nat.reduceAdd, Nat.reduceMul, Nat.reduceEqDiff, Nat.reduceLT, Nat.reduceLeDiff, Nat.reduceSub, Nat.reducePow, Nat.reduceBEq, Int.reduceToNat, List.reduceReplicate, hrl, hlen]
  repeat with_reducible refine cj ?_ ?_
  all_goals try first | omega
  refine hK7 _ _ _ ?_; clear hK7
  -- cond 1
  refine AW.cond rfl (by simp only [go_sem, reduceIte, reduceCtorEq, Nat.reduceAdd, Nat.reduceMul, Nat.reduceEqDiff, Nat.reduceLT, Nat.reduceLeDiff, Nat.reduceSub, Nat.reducePow, Nat.reduceBEq, Int.reduceToNat, List.reduceReplicate]) ?_ ?_
  · intro hb
    try simp only [hB, decide_eq_true_eq, decide_eq_false_iff_not] at hb
    have hgr := rowsR_get (t := t) (i := i) (by omega)
    have hrw := hs.rowLen (i := i) (by omega)
    have hti := take_succT (t := t) (i := i) (by omega)
    have htl : (rowsO (t.take i)).length = i := by rw [rowsO_len]; simp; omega
    have htk : (rowsO (t.take i)).take i = rowsO (t.take i) := List.take_of_length_le (by omega)
    generalize hb' : rowT t i = b at *
    have hap := rowsO_app (t.take i) b
    have hgl := fun x => app_get (rowsO (t.take i)) x htl
    have hsl := fun x y => app_set (rowsO (t.take i)) x y htl
    have hll := fun x => app_len (rowsO (t.take i)) x htl
    refine AW.skip ?_
    refine hK6 _ _ _ ?_; clear hK6
    refine AW.seq fun K8 hK8 => ?_
    refine AW.block ?_
    -- region 6
    refine AW.regionK 0 (fun _ => none) [0, 3, 4, 5] [22, 200] ?_
    simp only [go_sem, reduceIte, reduceCtorEq, Nat.reduceAdd, Nat.reduceMul, Nat.reduceEqDiff, Nat.reduceLT, Nat.reduceLeDiff, Nat.reduceSub, Nat.reducePow, Nat.reduceBEq, Int.reduceToNat, List.reduceReplicate, hrl, hlen, hgr, htk, htl, hrw]
    repeat with_reducible refine cj ?_ ?_
    all_goals try first | omega | (simp [scP, scalar]; done) | exact scP_words _ | exact scP_ints _ | exact scP_bools _
    refine hK8 _ _ _ ?_; clear hK8
    refine AW.adoptK 200 i 0 22 ?_
    simp only [go_sem, reduceIte, Nat.reduceEqDiff, hgl, hsl, hll]
    refine ⟨by decide, by rw [hrw], noOsl_bools _, ?_⟩
    refine AW.keep [0, 3, 4, 5] [200] ?_
    simp only [go_sem, reduceIte, Nat.reduceEqDiff, hap]
    -- region 5
    refine AW.regionK 0 (fun _ => none) [0, 3, 4, 5] [200] ?_
    simp only [go_sem, reduceIte, reduceCtorEq, Nat.reduceAdd, Nat.reduceMul, Nat.reduceEqDiff, Nat.reduceLT, Nat.reduceLeDiff, Nat.reduceSub, Nat.reducePow, Nat.reduceBEq, Int.reduceToNat, List.reduceReplicate, hrl, hlen]
    repeat with_reducible refine cj ?_ ?_
    all_goals try first | omega
    rw [← hQl1]
    change Exists _
    refine ⟨_, ?hm, i + 1, ?_, ?_, rfl, ?henv, ?hstore, ?hst⟩
    case henv =>
      repeat' (first | rfl | refine env_cons ?_ ?_ | refine st_cons ?_ ?_ ?_ ?_ | refine int_eq ?_ | refine bool_eq ?_ | refine rsl_eq ?_ | refine osl_eq ?_ | refine sl_eq ?_ ?_ ?_ | refine ptr_eq ?_ ?_ ?_ | refine agg_eq ?_ | refine es_cons ?_ ?_ | refine row_cons ?_ ?_)
      all_goals (first | (simp; done) | omega | (simp; omega))
    case hstore =>
      repeat' (first | rfl | refine env_cons ?_ ?_ | refine st_cons ?_ ?_ ?_ ?_ | refine int_eq ?_ | refine bool_eq ?_ | refine rsl_eq ?_ | refine osl_eq ?_ | refine sl_eq ?_ ?_ ?_ | refine ptr_eq ?_ ?_ ?_ | refine agg_eq ?_ | refine es_cons ?_ ?_ | refine row_cons ?_ ?_)
      all_goals (rw [hti])
    case hst =>
      first | trivial | omega | (simp; done) | (simp; omega)
    case hm => omega
  · intro hb
    try simp only [hB, decide_eq_true_eq, decide_eq_false_iff_not] at hb
    have hin : i = n := by omega
    subst hin
    rw [List.take_of_length_le (by omega : t.length ≤ i)]
    refine AW.exit ?_
    rw [← hQl1]
    refine hK4 _ _ _ ?_; clear hK4
    refine AW.seq fun K9 hK9 => ?_
    refine AW.seq fun K10 hK10 => ?_
    -- region 7
    refine AW.regionK 0 (fun _ => none) [3, 4, 6] [200] ?_
    simp only [go_sem, reduceIte, reduceCtorEq, Nat.reduceAdd, Nat.reduceMul, Nat.reduceEqDiff, Nat.reduceLT, Nat.reduceLeDiff, Nat.reduceSub, Nat.reducePow, Nat.reduceBEq, Int.reduceToNat, List.reduceReplicate, hrl, hlen]
    repeat with_reducible refine cj ?_ ?_
    all_goals try first | omega
    refine hK10 _ _ _ ?_; clear hK10
    refine AW.block ?_
    -- loop 2
    refine AW.loopE (fun mm ee ss kk => ∃ (k g v : Nat), i - k = mm ∧ ee = [(3, .int .i64 i), (4, .sl ⟨200, g, none⟩ 0 i none), (6, .int .i64 (k : Nat))] ∧ ss = [(200, some ⟨g, v, 1, rowsO (iter (warshK i) k t)⟩)] ∧ (k ≤ i)) ?_ ?_
    · refine ⟨_, 0, ?_, ?_, rfl, ?henv, ?hstore, ?hst⟩
      case henv =>
        repeat' (first | rfl | refine env_cons ?_ ?_ | refine st_cons ?_ ?_ ?_ ?_ | refine int_eq ?_ | refine bool_eq ?_ | refine rsl_eq ?_ | refine osl_eq ?_ | refine sl_eq ?_ ?_ ?_ | refine ptr_eq ?_ ?_ ?_ | refine agg_eq ?_ | refine es_cons ?_ ?_ | refine row_cons ?_ ?_)
        all_goals (first | (simp; done) | omega | (simp; omega))
      case hstore =>
        repeat' (first | rfl | refine env_cons ?_ ?_ | refine st_cons ?_ ?_ ?_ ?_ | refine int_eq ?_ | refine bool_eq ?_ | refine rsl_eq ?_ | refine osl_eq ?_ | refine sl_eq ?_ ?_ ?_ | refine ptr_eq ?_ ?_ ?_ | refine agg_eq ?_ | refine es_cons ?_ ?_ | refine row_cons ?_ ?_)
        all_goals (first | (simp; done) | omega | (simp; omega))
      case hst =>
        first | trivial | omega | (simp; done) | (simp; omega)
    rintro mm ee ss kk ⟨k, g, v, rfl, rfl, rfl, hI⟩
    generalize hQl2 : thenQ _ _ = Ql2
    refine AW.seq fun K11 hK11 => ?_
    refine AW.seq fun K12 hK12 => ?_
    -- region 8
    refine AW.regionK 0 (fun _ => none) [3, 4, 6, 27] [200] ?_
    simp only [go_sem, reduceIte, reduceCtorEq, Nat.reduceAdd, Nat.reduceMul, Nat.reduceEqDiff, Nat.reduceLT, Nat.reduceLeDiff, Nat.reduceSub, Nat.reducePow, Nat.reduceBEq, Int.reduceToNat, List.reduceReplicate, hrl, hlen]
    repeat with_reducible refine cj ?_ ?_
    all_goals try first | omega
    refine hK12 _ _ _ ?_; clear hK12
    -- cond 2
    refine AW.cond rfl (by simp only [go_sem, reduceIte, reduceCtorEq, Nat.reduceAdd, Nat.reduceMul, Nat.reduceEqDiff, Nat.reduceLT, Nat.reduceLeDiff, Nat.reduceSub, Nat.reducePow, Nat.reduceBEq, Int.reduceToNat, List.reduceReplicate]) ?_ ?_
    · intro hb
      try simp only [hB, decide_eq_true_eq, decide_eq_false_iff_not] at hb
      refine AW.skip ?_
      refine hK11 _ _ _ ?_; clear hK11
      refine AW.seq fun K13 hK13 => ?_
      refine AW.block ?_
      refine AW.seq fun K14 hK14 => ?_
      -- region 10
      refine AW.regionK 0 (fun _ => none) [3, 4, 6, 7] [200] ?_
      simp only [go_sem, reduceIte, reduceCtorEq, Nat.reduceAdd, Nat.reduceMul, Nat.reduceEqDiff, Nat.reduceLT, Nat.reduceLeDiff, Nat.reduceSub, Nat.reducePow, Nat.reduceBEq, Int.reduceToNat, List.reduceReplicate, hrl, hlen]
      repeat with_reducible refine cj ?_ ?_
      all_goals try first | omega
      refine hK14 _ _ _ ?_; clear hK14
      refine AW.block ?_
      -- loop 3
      refine AW.loopE (fun mm ee ss kk => ∃ (q g v : Nat), i - q = mm ∧ ee = [(3, .int .i64 i), (4, .sl ⟨200, g, none⟩ 0 i none), (6, .int .i64 (k : Nat)), (7, .int .i64 (q : Nat))] ∧ ss = [(200, some ⟨g, v, 1, rowsO (iter (warshI k) q (iter (warshK i) k t))⟩)] ∧ (q ≤ i)) ?_ ?_
      · refine ⟨_, 0, ?_, ?_, rfl, ?henv, ?hstore, ?hst⟩
        case henv =>
          repeat' (first | rfl | refine env_cons ?_ ?_ | refine st_cons ?_ ?_ ?_ ?_ | refine int_eq ?_ | refine bool_eq ?_ | refine rsl_eq ?_ | refine osl_eq ?_ | refine sl_eq ?_ ?_ ?_ | refine ptr_eq ?_ ?_ ?_ | refine agg_eq ?_ | refine es_cons ?_ ?_ | refine row_cons ?_ ?_)
          all_goals (first | (simp; done) | omega | (simp; omega))
        case hstore =>
          repeat' (first | rfl | refine env_cons ?_ ?_ | refine st_cons ?_ ?_ ?_ ?_ | refine int_eq ?_ | refine bool_eq ?_ | refine rsl_eq ?_ | refine osl_eq ?_ | refine sl_eq ?_ ?_ ?_ | refine ptr_eq ?_ ?_ ?_ | refine agg_eq ?_ | refine es_cons ?_ ?_ | refine row_cons ?_ ?_)
          all_goals (first | (simp; done) | omega | (simp; omega))
        case hst =>
          first | trivial | omega | (simp; done) | (simp; omega)
      rintro mm ee ss kk ⟨q, g, v, rfl, rfl, rfl, hI⟩
      generalize hQl3 : thenQ _ _ = Ql3
      refine AW.seq fun K15 hK15 => ?_
      refine AW.seq fun K16 hK16 => ?_
      -- region 11
      refine AW.regionK 0 (fun _ => none) [3, 4, 6, 7, 32] [200] ?_
      simp only [go_sem, reduceIte, reduceCtorEq, Nat.reduceAdd, Nat.reduceMul, Nat.reduceEqDiff, Nat.reduceLT, Nat.reduceLeDiff, Nat.reduceSub, Nat.reducePow, Nat.reduceBEq, Int.reduceToNat, List.reduceReplicate, hrl, hlen]
      repeat with_reducible refine cj ?_ ?_
      all_goals try first | omega
      refine hK16 _ _ _ ?_; clear hK16
      -- cond 3
      refine AW.cond rfl (by simp only [go_sem, reduceIte, reduceCtorEq, Nat.reduceAdd, Nat.reduceMul, Nat.reduceEqDiff, Nat.reduceLT, Nat.reduceLeDiff, Nat.reduceSub, Nat.reducePow, Nat.reduceBEq, Int.reduceToNat, List.reduceReplicate]) ?_ ?_
      · intro hb
        try simp only [hB, decide_eq_true_eq, decide_eq_false_iff_not] at hb
        have hsu : Sq i (iter (warshI k) q (iter (warshK i) k t)) := (hs.warsh' (by omega)).warshK' (by omega) (by omega)
        have hus : iter (warshI k) (q + 1) (iter (warshK i) k t) = warshI k q (iter (warshI k) q (iter (warshK i) k t)) := rfl
        rw [warshI_eq] at hus
        generalize hU : iter (warshI k) q (iter (warshK i) k t) = U at *
        have hol := rowsO_len U
        have hul := hsu.len
        have hgq := rowsO_get (t := U) (i := q) (by omega)
        have hgk := rowsO_get (t := U) (i := k) (by omega)
        have hrq := hsu.rowLen (i := q) (by omega)
        have hrk := hsu.rowLen (i := k) (by omega)
        have hgb := bools_getD (l := rowT U q) (i := k) (by omega)
        have hat : (rowT U q).getD k false = atT U q k := rfl
        rw [hat] at hgb
        have hset := rowsO_set U q
        have hss : ∀ x : List AV, ((rowsO U).set q x).getD q [] = x := fun x => Go.AM.getD_set_eq (by omega) _ _
        have hfix : (rowsO U).set q [.osl 1 (bools (rowT U q))] = rowsO U := by rw [← hgq]; exact set_getD_self _ _ _
        have hC : ∀ j, j < i → ∃ C : List Bool, ((rowsO U).set q [.osl 1 (bools (orB (rowT U q) (rowT U k) j))]).getD k [] = [.osl 1 (bools C)] ∧ C.length = i ∧ C.getD j false = (rowT U k).getD j false := fun j hj => by
          by_cases e : q = k
          · refine ⟨orB (rowT U q) (rowT U k) j, by rw [← e, hss], by rw [orB_len (by omega)]; exact hrq, ?_⟩
            rw [orB_get (by omega) (Nat.le_refl _), e]
          · exact ⟨rowT U k, by rw [Go.AM.getD_set_ne e, hgk], hrk, rfl⟩
        refine AW.skip ?_
        refine hK15 _ _ _ ?_; clear hK15
        refine AW.seq fun K17 hK17 => ?_
        refine AW.block ?_
        refine AW.seq fun K18 hK18 => ?_
        refine AW.seq fun K19 hK19 => ?_
        -- region 13
        refine AW.regionK 0 (fun _ => none) [3, 4, 6, 7, 42] [200] ?_
        simp only [go_sem, reduceIte, reduceCtorEq, Nat.reduceAdd, Nat.reduceMul, Nat.reduceEqDiff, Nat.reduceLT, Nat.reduceLeDiff, Nat.reduceSub, Nat.reducePow, Nat.reduceBEq, Int.reduceToNat, List.reduceReplicate, hrl, hlen, hgq, hrq, hgb]
        repeat with_reducible refine cj ?_ ?_
        all_goals try first | omega
        refine hK19 _ _ _ ?_; clear hK19
        -- cond 4
        refine AW.cond rfl (by simp only [go_sem, reduceIte, reduceCtorEq, Nat.reduceAdd, Nat.reduceMul, Nat.reduceEqDiff, Nat.reduceLT, Nat.reduceLeDiff, Nat.reduceSub, Nat.reducePow, Nat.reduceBEq, Int.reduceToNat, List.reduceReplicate]) ?_ ?_
        · intro hb
          try simp only [hB, decide_eq_true_eq, decide_eq_false_iff_not] at hb
          rw [if_neg (by rw [hb]; simp)] at hus
          refine AW.exit ?_
          refine hK17 _ _ _ ?_; clear hK17
          -- region 12
          refine AW.regionK 0 (fun _ => none) [3, 4, 6, 7] [200] ?_
          simp only [go_sem, reduceIte, reduceCtorEq, Nat.reduceAdd, Nat.reduceMul, Nat.reduceEqDiff, Nat.reduceLT, Nat.reduceLeDiff, Nat.reduceSub, Nat.reducePow, Nat.reduceBEq, Int.reduceToNat, List.reduceReplicate, hrl, hlen]
          repeat with_reducible refine cj ?_ ?_
          all_goals try first | omega
          rw [← hQl3]
          change Exists _
          refine ⟨_, ?hm, q + 1, ?_, ?_, rfl, ?henv, ?hstore, ?hst⟩
          case henv =>
            repeat' (first | rfl | refine env_cons ?_ ?_ | refine st_cons ?_ ?_ ?_ ?_ | refine int_eq ?_ | refine bool_eq ?_ | refine rsl_eq ?_ | refine osl_eq ?_ | refine sl_eq ?_ ?_ ?_ | refine ptr_eq ?_ ?_ ?_ | refine agg_eq ?_ | refine es_cons ?_ ?_ | refine row_cons ?_ ?_)
            all_goals (first | (simp; done) | omega | (simp; omega))
          case hstore =>
            repeat' (first | rfl | refine env_cons ?_ ?_ | refine st_cons ?_ ?_ ?_ ?_ | refine int_eq ?_ | refine bool_eq ?_ | refine rsl_eq ?_ | refine osl_eq ?_ | refine sl_eq ?_ ?_ ?_ | refine ptr_eq ?_ ?_ ?_ | refine agg_eq ?_ | refine es_cons ?_ ?_ | refine row_cons ?_ ?_)
            all_goals (rw [hus])
          case hst =>
            first | trivial | omega | (simp; done) | (simp; omega)
          case hm => omega
        · intro hb
          try simp only [hB, decide_eq_true_eq, decide_eq_false_iff_not] at hb
          rw [if_pos hb] at hus
          unfold orRow at hus
          generalize ha' : rowT U q = a at *
          generalize hb' : rowT U k = b at *
          refine AW.skip ?_
          refine hK18 _ _ _ ?_; clear hK18
          refine AW.seq fun K20 hK20 => ?_
          -- region 14
          refine AW.regionK 0 (fun _ => none) [3, 4, 6, 7, 8] [200] ?_
          simp only [go_sem, reduceIte, reduceCtorEq, Nat.reduceAdd, Nat.reduceMul, Nat.reduceEqDiff, Nat.reduceLT, Nat.reduceLeDiff, Nat.reduceSub, Nat.reducePow, Nat.reduceBEq, Int.reduceToNat, List.reduceReplicate, hrl, hlen]
          repeat with_reducible refine cj ?_ ?_
          all_goals try first | omega
          refine hK20 _ _ _ ?_; clear hK20
          refine AW.block ?_
          -- loop 4
          refine AW.loopE (fun mm ee ss kk => ∃ (j g v : Nat), i - j = mm ∧ ee = [(3, .int .i64 i), (4, .sl ⟨200, g, none⟩ 0 i none), (6, .int .i64 (k : Nat)), (7, .int .i64 (q : Nat)), (8, .int .i64 (j : Nat))] ∧ ss = [(200, some ⟨g, v, 1, (rowsO U).set q [.osl 1 (bools (orB a b j))]⟩)] ∧ (j ≤ i)) ?_ ?_
          · refine ⟨_, 0, ?_, ?_, rfl, ?henv, ?hstore, ?hst⟩
            case henv =>
              repeat' (first | rfl | refine env_cons ?_ ?_ | refine st_cons ?_ ?_ ?_ ?_ | refine int_eq ?_ | refine bool_eq ?_ | refine rsl_eq ?_ | refine osl_eq ?_ | refine sl_eq ?_ ?_ ?_ | refine ptr_eq ?_ ?_ ?_ | refine agg_eq ?_ | refine es_cons ?_ ?_ | refine row_cons ?_ ?_)
              all_goals (first | (simp; done) | omega | (simp; omega))
            case hstore =>
              repeat' (first | rfl | refine env_cons ?_ ?_ | refine st_cons ?_ ?_ ?_ ?_ | refine int_eq ?_ | refine bool_eq ?_ | refine rsl_eq ?_ | refine osl_eq ?_ | refine sl_eq ?_ ?_ ?_ | refine ptr_eq ?_ ?_ ?_ | refine agg_eq ?_ | refine es_cons ?_ ?_ | refine row_cons ?_ ?_)
              all_goals (rw [orB_zero, hfix])
            case hst =>
              first | trivial | omega | (simp; done) | (simp; omega)
          rintro mm ee ss kk ⟨j, g, v, rfl, rfl, rfl, hI⟩
          generalize hQl4 : thenQ _ _ = Ql4
          refine AW.seq fun K21 hK21 => ?_
          refine AW.seq fun K22 hK22 => ?_
          -- region 15
          refine AW.regionK 0 (fun _ => none) [3, 4, 6, 7, 8, 45] [200] ?_
          simp only [go_sem, reduceIte, reduceCtorEq, Nat.reduceAdd, Nat.reduceMul, Nat.reduceEqDiff, Nat.reduceLT, Nat.reduceLeDiff, Nat.reduceSub, Nat.reducePow, Nat.reduceBEq, Int.reduceToNat, List.reduceReplicate, hrl, hlen]
          repeat with_reducible refine cj ?_ ?_
          all_goals try first | omega
          refine hK22 _ _ _ ?_; clear hK22
          -- cond 5
          refine AW.cond rfl (by simp only [go_sem, reduceIte, reduceCtorEq, Nat.reduceAdd, Nat.reduceMul, Nat.reduceEqDiff, Nat.reduceLT, Nat.reduceLeDiff, Nat.reduceSub, Nat.reducePow, Nat.reduceBEq, Int.reduceToNat, List.reduceReplicate]) ?_ ?_
          · intro hb
            try simp only [hB, decide_eq_true_eq, decide_eq_false_iff_not] at hb
            obtain ⟨C, hC1, hC2, hC3⟩ := hC j (by omega)
            have hgc := bools_getD (l := C) (i := j) (by omega)
            rw [hC3] at hgc
            have hos := orB_step (a := a) (b := b) (by omega) (j := j) (by omega)
            have hob := orB_len (a := a) (b := b) (by omega) j
            refine AW.skip ?_
            refine hK21 _ _ _ ?_; clear hK21
            refine AW.seq fun K23 hK23 => ?_
            refine AW.block ?_
            refine AW.seq fun K24 hK24 => ?_
            -- region 17
            refine AW.regionK 0 (fun _ => none) [3, 4, 6, 7, 8, 54] [200] ?_
            simp only [go_sem, reduceIte, reduceCtorEq, Nat.reduceAdd, Nat.reduceMul, Nat.reduceEqDiff, Nat.reduceLT, Nat.reduceLeDiff, Nat.reduceSub, Nat.reducePow, Nat.reduceBEq, Int.reduceToNat, List.reduceReplicate, hrl, hlen, hC1, hC2, hgc]
            repeat with_reducible refine cj ?_ ?_
            all_goals try first | omega
            refine hK24 _ _ _ ?_; clear hK24
            -- cond 6
            refine AW.cond rfl (by simp only [go_sem, reduceIte, reduceCtorEq, Nat.reduceAdd, Nat.reduceMul, Nat.reduceEqDiff, Nat.reduceLT, Nat.reduceLeDiff, Nat.reduceSub, Nat.reducePow, Nat.reduceBEq, Int.reduceToNat, List.reduceReplicate]) ?_ ?_
            · intro hb
              try simp only [hB, decide_eq_true_eq, decide_eq_false_iff_not] at hb
              rw [if_pos hb] at hos
              -- region 18
              refine AW.regionK 0 (fun _ => none) [3, 4, 6, 7, 8] [200] ?_
              simp only [go_sem, reduceIte, reduceCtorEq, Nat.reduceAdd, Nat.reduceMul, Nat.reduceEqDiff, Nat.reduceLT, Nat.reduceLeDiff, Nat.reduceSub, Nat.reducePow, Nat.reduceBEq, Int.reduceToNat, List.reduceReplicate, hrl, hlen, hss, hob, hrq, List.set_set]
              repeat with_reducible refine cj ?_ ?_
              all_goals try first | omega
              refine hK23 _ _ _ ?_; clear hK23
              -- region 16
              refine AW.regionK 0 (fun _ => none) [3, 4, 6, 7, 8] [200] ?_
              simp only [go_sem, reduceIte, reduceCtorEq, Nat.reduceAdd, Nat.reduceMul, Nat.reduceEqDiff, Nat.reduceLT, Nat.reduceLeDiff, Nat.reduceSub, Nat.reducePow, Nat.reduceBEq, Int.reduceToNat, List.reduceReplicate, hrl, hlen]
              repeat with_reducible refine cj ?_ ?_
              all_goals try first | omega
              rw [← hQl4]
              change Exists _
              refine ⟨_, ?hm, j + 1, ?_, ?_, rfl, ?henv, ?hstore, ?hst⟩
              case henv =>
                repeat' (first | rfl | refine env_cons ?_ ?_ | refine st_cons ?_ ?_ ?_ ?_ | refine int_eq ?_ | refine bool_eq ?_ | refine rsl_eq ?_ | refine osl_eq ?_ | refine sl_eq ?_ ?_ ?_ | refine ptr_eq ?_ ?_ ?_ | refine agg_eq ?_ | refine es_cons ?_ ?_ | refine row_cons ?_ ?_)
                all_goals (first | (simp; done) | omega | (simp; omega))
              case hstore =>
                repeat' (first | rfl | refine env_cons ?_ ?_ | refine st_cons ?_ ?_ ?_ ?_ | refine int_eq ?_ | refine bool_eq ?_ | refine rsl_eq ?_ | refine osl_eq ?_ | refine sl_eq ?_ ?_ ?_ | refine ptr_eq ?_ ?_ ?_ | refine agg_eq ?_ | refine es_cons ?_ ?_ | refine row_cons ?_ ?_)
                all_goals (rw [hos])
              case hst =>
                first | trivial | omega | (simp; done) | (simp; omega)
              case hm => omega
            · intro hb
              try simp only [hB, decide_eq_true_eq, decide_eq_false_iff_not] at hb
              rw [if_neg (by rw [hb]; simp)] at hos
              refine AW.skip ?_
              refine hK23 _ _ _ ?_; clear hK23
              -- region 16
              refine AW.regionK 0 (fun _ => none) [3, 4, 6, 7, 8] [200] ?_
              simp only [go_sem, reduceIte, reduceCtorEq, Nat.reduceAdd, Nat.reduceMul, Nat.reduceEqDiff, Nat.reduceLT, Nat.reduceLeDiff, Nat.reduceSub, Nat.reducePow, Nat.reduceBEq, Int.reduceToNat, List.reduceReplicate, hrl, hlen]
              repeat with_reducible refine cj ?_ ?_
              all_goals try first | omega
              rw [← hQl4]
              change Exists _
              refine ⟨_, ?hm, j + 1, ?_, ?_, rfl, ?henv, ?hstore, ?hst⟩
              case henv =>
                repeat' (first | rfl | refine env_cons ?_ ?_ | refine st_cons ?_ ?_ ?_ ?_ | refine int_eq ?_ | refine bool_eq ?_ | refine rsl_eq ?_ | refine osl_eq ?_ | refine sl_eq ?_ ?_ ?_ | refine ptr_eq ?_ ?_ ?_ | refine agg_eq ?_ | refine es_cons ?_ ?_ | refine row_cons ?_ ?_)
                all_goals (first | (simp; done) | omega | (simp; omega))
              case hstore =>
                repeat' (first | rfl | refine env_cons ?_ ?_ | refine st_cons ?_ ?_ ?_ ?_ | refine int_eq ?_ | refine bool_eq ?_ | refine rsl_eq ?_ | refine osl_eq ?_ | refine sl_eq ?_ ?_ ?_ | refine ptr_eq ?_ ?_ ?_ | refine agg_eq ?_ | refine es_cons ?_ ?_ | refine row_cons ?_ ?_)
                all_goals (rw [hos])
              case hst =>
                first | trivial | omega | (simp; done) | (simp; omega)
              case hm => omega
          · intro hb
            try simp only [hB, decide_eq_true_eq, decide_eq_false_iff_not] at hb
            have hj : j = i := by omega
            subst hj
            rw [orB_all (by omega) (by omega), hset]
            refine AW.exit ?_
            rw [← hQl4]
            refine hK17 _ _ _ ?_; clear hK17
            -- region 12
            refine AW.regionK 0 (fun _ => none) [3, 4, 6, 7] [200] ?_
            simp only [go_sem, reduceIte, reduceCtorEq, Nat.reduceAdd, Nat.reduceMul, Nat.reduceEqDiff, Nat.reduceLT, Nat.reduceLeDiff, Nat.reduceSub, Nat.reducePow, Nat.reduceBEq, Int.reduceToNat, List.reduceReplicate, hrl, hlen]
            repeat with_reducible refine cj ?_ ?_
            all_goals try first | omega
            rw [← hQl3]
            change Exists _
            refine ⟨_, ?hm, q + 1, ?_, ?_, rfl, ?henv, ?hstore, ?hst⟩
            case henv =>
              repeat' (first | rfl | refine env_cons ?_ ?_ | refine st_cons ?_ ?_ ?_ ?_ | refine int_eq ?_ | refine bool_eq ?_ | refine rsl_eq ?_ | refine osl_eq ?_ | refine sl_eq ?_ ?_ ?_ | refine ptr_eq ?_ ?_ ?_ | refine agg_eq ?_ | refine es_cons ?_ ?_ | refine row_cons ?_ ?_)
              all_goals (first | (simp; done) | omega | (simp; omega))
            case hstore =>
              repeat' (first | rfl | refine env_cons ?_ ?_ | refine st_cons ?_ ?_ ?_ ?_ | refine int_eq ?_ | refine bool_eq ?_ | refine rsl_eq ?_ | refine osl_eq ?_ | refine sl_eq ?_ ?_ ?_ | refine ptr_eq ?_ ?_ ?_ | refine agg_eq ?_ | refine es_cons ?_ ?_ | refine row_cons ?_ ?_)
              all_goals (rw [hus])
            case hst =>
              first | trivial | omega | (simp; done) | (simp; omega)
            case hm => omega
      · intro hb
        try simp only [hB, decide_eq_true_eq, decide_eq_false_iff_not] at hb
        have hq : q = i := by omega
        subst hq
        refine AW.exit ?_
        rw [← hQl3]
        refine hK13 _ _ _ ?_; clear hK13
        -- region 9
        refine AW.regionK 0 (fun _ => none) [3, 4, 6] [200] ?_
        simp only [go_sem, reduceIte, reduceCtorEq, Nat.reduceAdd, Nat.reduceMul, Nat.reduceEqDiff, Nat.reduceLT, Nat.reduceLeDiff, Nat.reduceSub, Nat.reducePow, Nat.reduceBEq, Int.reduceToNat, List.reduceReplicate, hrl, hlen]
        repeat with_reducible refine cj ?_ ?_
        all_goals try first | omega
        rw [← hQl2]
        change Exists _
        refine ⟨_, ?hm, k + 1, ?_, ?_, rfl, ?henv, ?hstore, ?hst⟩
        case henv =>
          repeat' (first | rfl | refine env_cons ?_ ?_ | refine st_cons ?_ ?_ ?_ ?_ | refine int_eq ?_ | refine bool_eq ?_ | refine rsl_eq ?_ | refine osl_eq ?_ | refine sl_eq ?_ ?_ ?_ | refine ptr_eq ?_ ?_ ?_ | refine agg_eq ?_ | refine es_cons ?_ ?_ | refine row_cons ?_ ?_)
          all_goals (first | (simp; done) | omega | (simp; omega))
        case hstore =>
          repeat' (first | rfl | refine env_cons ?_ ?_ | refine st_cons ?_ ?_ ?_ ?_ | refine int_eq ?_ | refine bool_eq ?_ | refine rsl_eq ?_ | refine osl_eq ?_ | refine sl_eq ?_ ?_ ?_ | refine ptr_eq ?_ ?_ ?_ | refine agg_eq ?_ | refine es_cons ?_ ?_ | refine row_cons ?_ ?_)
          all_goals rfl
        case hst =>
          first | trivial | omega | (simp; done) | (simp; omega)
        case hm => omega
    · intro hb
      try simp only [hB, decide_eq_true_eq, decide_eq_false_iff_not] at hb
      refine AW.exit ?_
      rw [← hQl2]
      refine hK9 _ _ _ ?_; clear hK9
      refine AW.seq fun K25 hK25 => ?_
      -- region 19
      refine AW.regionK 0 (fun _ => none) [2] [200] ?_
      simp only [go_sem, reduceIte, reduceCtorEq, Nat.reduceAdd, Nat.reduceMul, Nat.reduceEqDiff, Nat.reduceLT, Nat.reduceLeDiff, Nat.reduceSub, Nat.reducePow, Nat.reduceBEq, Int.reduceToNat, List.reduceReplicate, hrl, hlen]
      repeat with_reducible refine cj ?_ ?_
      all_goals try first | omega
      refine hK25 _ _ _ ?_; clear hK25
      refine AW.ret ?_
      rw [← hQr]
      simp only [go_sem, reduceIte, reduceCtorEq, Nat.reduceAdd, Nat.reduceMul, Nat.reduceEqDiff, Nat.reduceLT, Nat.reduceLeDiff, Nat.reduceSub, Nat.reducePow, Nat.reduceBEq, Int.reduceToNat, List.reduceReplicate, hrl, hlen]
      have hk : k = i := by omega
      subst hk
      rw [List.take_of_length_le (by rw [rowsO_len, (hs.warsh' (Nat.le_refl _)).len]; exact Nat.le_refl _), vwcF_rowsO]
      exact Wk.refl _
theorem racyclic_r (n : Nat) (t : List (List Bool)) (hs : Sq n t) (hn : n ≤ 512) : Reads Try.prog 27 false [.rsl 1 (rowsR t)] (.bool (acyc n t)) := by
  have hc := rclosure_r n t hs hn
  have hsw := hs.warsh
  have hwl := hsw.len
  have hrl := rowsR_len (warsh n t)
  have hac : acyc n t = (List.range n).all fun i => !atT (warsh n t) i i := rfl
  generalize warsh n t = c at *
  refine Reads.body (rs := [.tmp 2]) Try.func27 rfl Try.ntmps27 rfl (by simp) ?_
  generalize hQr : retQ _ _ _ = Qr
  refine AW.seq fun K1 hK1 => ?_
  -- region 0
  refine AW.regionK 0 (fun _ => none) [0] [] ?_
  simp only [go_sem, reduceIte, reduceCtorEq, Nat.reduceAdd, Nat.reduceMul, Nat.reduceEqDiff, Nat.reduceLT, Nat.reduceLeDiff, Nat.reduceSub, Nat.reducePow, Nat.reduceBEq, Int.reduceToNat, List.reduceReplicate, hrl, hwl]
  repeat with_reducible refine cj ?_ ?_
  all_goals try first | omega
  refine hK1 _ _ _ ?_; clear hK1
  refine AW.seq fun K2 hK2 => ?_
  -- region 1
  refine AW.regionK 0 (fun ii => if ii = 1 then some (.reads true (.rsl 1 (rowsR c))) else none) [3] [] ?_
  simp only [go_sem, reduceIte, reduceCtorEq, Nat.reduceAdd, Nat.reduceMul, Nat.reduceEqDiff, Nat.reduceLT, Nat.reduceLeDiff, Nat.reduceSub, Nat.reducePow, Nat.reduceBEq, Int.reduceToNat, List.reduceReplicate, hrl, hwl]
  repeat with_reducible refine cj ?_ ?_
  all_goals try first | (exact hc) | omega | exact ent (by kernel_rfl)
  refine hK2 _ _ _ ?_; clear hK2
  refine AW.seq fun K3 hK3 => ?_
  refine AW.seq fun K4 hK4 => ?_
  -- region 2
  refine AW.regionK 0 (fun _ => none) [3, 4] [] ?_
  simp only [go_sem, reduceIte, reduceCtorEq, Nat.reduceAdd, Nat.reduceMul, Nat.reduceEqDiff, Nat.reduceLT, Nat.reduceLeDiff, Nat.reduceSub, Nat.reducePow, Nat.reduceBEq, Int.reduceToNat, List.reduceReplicate, hrl, hwl]
  repeat with_reducible refine cj ?_ ?_
  all_goals try first | omega
  refine hK4 _ _ _ ?_; clear hK4
  refine AW.block ?_
  -- loop 1
  refine AW.loopE (fun mm ee ss kk => ∃ (j : Nat), n - j = mm ∧ ee = [(3, .rsl 1 (rowsR c)), (4, .int .i64 (j : Nat))] ∧ ss = [] ∧ (j ≤ n ∧ ((List.range j).all fun i => !atT c i i) = true)) ?_ ?_
  · refine ⟨_, 0, rfl, ?henv, ?hstore, ?hst⟩
    case henv =>
      repeat' (first | rfl | refine env_cons ?_ ?_ | refine st_cons ?_ ?_ ?_ ?_ | refine int_eq ?_ | refine bool_eq ?_ | refine rsl_eq ?_ | refine osl_eq ?_ | refine sl_eq ?_ ?_ ?_ | refine ptr_eq ?_ ?_ ?_ | refine agg_eq ?_ | refine es_cons ?_ ?_ | refine row_cons ?_ ?_)
      all_goals (first | (simp; done) | omega | (simp; omega))
    case hstore =>
      repeat' (first | rfl | refine env_cons ?_ ?_ | refine st_cons ?_ ?_ ?_ ?_ | refine int_eq ?_ | refine bool_eq ?_ | refine rsl_eq ?_ | refine osl_eq ?_ | refine sl_eq ?_ ?_ ?_ | refine ptr_eq ?_ ?_ ?_ | refine agg_eq ?_ | refine es_cons ?_ ?_ | refine row_cons ?_ ?_)
      all_goals (first | (simp; done) | omega | (simp; omega))
    case hst =>
      exact ⟨Nat.zero_le _, rfl⟩
  rintro mm ee ss kk ⟨j, rfl, rfl, rfl, hI⟩
  generalize hQl1 : thenQ _ _ = Ql1
  obtain ⟨hj, hall⟩ := hI
  refine AW.seq fun K5 hK5 => ?_
  refine AW.seq fun K6 hK6 => ?_
  -- region 3
  refine AW.regionK 0 (fun _ => none) [3, 4, 10] [] ?_
  simp only [go_sem, reduceIte, reduceCtorEq, Nat.reduceAdd, Nat.reduceMul, Nat.reduceEqDiff, Nat.reduceLT, Nat.reduceLeDiff, Nat.reduceSub, Nat.reducePow, Nat.reduceBEq, Int.reduceToNat, List.reduceReplicate, hrl, hwl]
  repeat with_reducible refine cj ?_ ?_
  all_goals try first | omega
  refine hK6 _ _ _ ?_; clear hK6
  -- cond 1
  refine AW.cond rfl (by simp only [go_sem, reduceIte, reduceCtorEq, Nat.reduceAdd, Nat.reduceMul, Nat.reduceEqDiff, Nat.reduceLT, Nat.reduceLeDiff, Nat.reduceSub, Nat.reducePow, Nat.reduceBEq, Int.reduceToNat, List.reduceReplicate]) ?_ ?_
  · intro hb
    try simp only [hB, decide_eq_true_eq, decide_eq_false_iff_not] at hb
    have hrs := range_all_succ (p := fun i => !atT c i i) j
    rw [hall] at hrs
    have hgr := rowsR_get (t := c) (i := j) (by omega)
    have hrw := hsw.rowLen (i := j) (by omega)
    have hgb := bools_getD (l := rowT c j) (i := j) (by omega)
    have hat : (rowT c j).getD j false = atT c j j := rfl
    rw [hat] at hgb
    refine AW.skip ?_
    refine hK5 _ _ _ ?_; clear hK5
    refine AW.seq fun K7 hK7 => ?_
    refine AW.block ?_
    refine AW.seq fun K8 hK8 => ?_
    -- region 5
    refine AW.regionK 0 (fun _ => none) [3, 4, 19] [] ?_
    simp only [go_sem, reduceIte, reduceCtorEq, Nat.reduceAdd, Nat.reduceMul, Nat.reduceEqDiff, Nat.reduceLT, Nat.reduceLeDiff, Nat.reduceSub, Nat.reducePow, Nat.reduceBEq, Int.reduceToNat, List.reduceReplicate, hrl, hwl, hgr, hrw, hgb]
    repeat with_reducible refine cj ?_ ?_
    all_goals try first | omega
    refine hK8 _ _ _ ?_; clear hK8
    -- cond 2
    refine AW.cond rfl (by simp only [go_sem, reduceIte, reduceCtorEq, Nat.reduceAdd, Nat.reduceMul, Nat.reduceEqDiff, Nat.reduceLT, Nat.reduceLeDiff, Nat.reduceSub, Nat.reducePow, Nat.reduceBEq, Int.reduceToNat, List.reduceReplicate]) ?_ ?_
    · intro hb
      try simp only [hB, decide_eq_true_eq, decide_eq_false_iff_not] at hb
      refine AW.seq fun K9 hK9 => ?_
      -- region 6
      refine AW.regionK 0 (fun _ => none) [2] [] ?_
      simp only [go_sem, reduceIte, reduceCtorEq, Nat.reduceAdd, Nat.reduceMul, Nat.reduceEqDiff, Nat.reduceLT, Nat.reduceLeDiff, Nat.reduceSub, Nat.reducePow, Nat.reduceBEq, Int.reduceToNat, List.reduceReplicate, hrl, hwl]
      repeat with_reducible refine cj ?_ ?_
      all_goals try first | omega
      refine hK9 _ _ _ ?_; clear hK9
      refine AW.ret ?_
      rw [← hQl1]
      rw [← hQr]
      simp only [go_sem, reduceIte, reduceCtorEq, Nat.reduceAdd, Nat.reduceMul, Nat.reduceEqDiff, Nat.reduceLT, Nat.reduceLeDiff, Nat.reduceSub, Nat.reducePow, Nat.reduceBEq, Int.reduceToNat, List.reduceReplicate, hrl, hwl]
      exact Wk.of_eq (by rw [hac, range_all_false (j := j) (by omega) (by rw [hb]; rfl)])
    · intro hb
      try simp only [hB, decide_eq_true_eq, decide_eq_false_iff_not] at hb
      refine AW.skip ?_
      refine hK7 _ _ _ ?_; clear hK7
      -- region 4
      refine AW.regionK 0 (fun _ => none) [3, 4] [] ?_
      simp only [go_sem, reduceIte, reduceCtorEq, Nat.reduceAdd, Nat.reduceMul, Nat.reduceEqDiff, Nat.reduceLT, Nat.reduceLeDiff, Nat.reduceSub, Nat.reducePow, Nat.reduceBEq, Int.reduceToNat, List.reduceReplicate, hrl, hwl]
      repeat with_reducible refine cj ?_ ?_
      all_goals try first | omega
      rw [← hQl1]
      change Exists _
      refine ⟨_, ?hm, j + 1, rfl, ?henv, ?hstore, ?hst⟩
      case henv =>
        repeat' (first | rfl | refine env_cons ?_ ?_ | refine st_cons ?_ ?_ ?_ ?_ | refine int_eq ?_ | refine bool_eq ?_ | refine rsl_eq ?_ | refine osl_eq ?_ | refine sl_eq ?_ ?_ ?_ | refine ptr_eq ?_ ?_ ?_ | refine agg_eq ?_ | refine es_cons ?_ ?_ | refine row_cons ?_ ?_)
        all_goals (first | (simp; done) | omega | (simp; omega))
      case hstore =>
        repeat' (first | rfl | refine env_cons ?_ ?_ | refine st_cons ?_ ?_ ?_ ?_ | refine int_eq ?_ | refine bool_eq ?_ | refine rsl_eq ?_ | refine osl_eq ?_ | refine sl_eq ?_ ?_ ?_ | refine ptr_eq ?_ ?_ ?_ | refine agg_eq ?_ | refine es_cons ?_ ?_ | refine row_cons ?_ ?_)
        all_goals (first | (simp; done) | omega | (simp; omega))
      case hst =>
        exact ⟨by omega, by rw [hrs, hb]; rfl⟩
      case hm => omega
  · intro hb
    try simp only [hB, decide_eq_true_eq, decide_eq_false_iff_not] at hb
    refine AW.keep [] [] ?_
    try simp only [go_sem, reduceIte, reduceCtorEq, Nat.reduceAdd, Nat.reduceMul, Nat.reduceEqDiff, Nat.reduceLT, Nat.reduceLeDiff, Nat.reduceSub, Nat.reducePow, Nat.reduceBEq, Int.reduceToNat, List.reduceReplicate]
    refine AW.exit ?_
    rw [← hQl1]
    refine hK3 _ _ _ ?_; clear hK3
    refine AW.seq fun K10 hK10 => ?_
    -- region 7
    refine AW.regionK 0 (fun _ => none) [2] [] ?_
    simp only [go_sem, reduceIte, reduceCtorEq, Nat.reduceAdd, Nat.reduceMul, Nat.reduceEqDiff, Nat.reduceLT, Nat.reduceLeDiff, Nat.reduceSub, Nat.reducePow, Nat.reduceBEq, Int.reduceToNat, List.reduceReplicate, hrl, hwl]
    repeat with_reducible refine cj ?_ ?_
    all_goals try first | omega
    refine hK10 _ _ _ ?_; clear hK10
    refine AW.ret ?_
    rw [← hQr]
    simp only [go_sem, reduceIte, reduceCtorEq, Nat.reduceAdd, Nat.reduceMul, Nat.reduceEqDiff, Nat.reduceLT, Nat.reduceLeDiff, Nat.reduceSub, Nat.reducePow, Nat.reduceBEq, Int.reduceToNat, List.reduceReplicate, hrl, hwl]
    have hj2 : j = n := by omega
    subst hj2
    exact Wk.of_eq (by rw [hac, hall])
end Go.Proofs.R
namespace Go.Proofs.R
open Go.AM Go
set_option maxRecDepth 100000
set_option maxHeartbeats 2000000
theorem rreduction_r (n : Nat) (t : List (List Bool)) (hs : Sq n t) (hn : n ≤ 512) : Reads Try.prog 28 true [.rsl 1 (rowsR t)] (.rsl 1 (rowsR (redT n t (compT n t (warsh n t))))) := by
  have hlen := hs.len
  have hrl := rowsR_len t
  have hcl := rclosure_r n t hs hn
  have hco := rcompose_r n (warsh n t) (warsh n t) hs.warsh hs.warsh hn
  rw [← comp_closure hs] at hco
  have hsl : Sq n (compT n t (warsh n t)) := Sq.comp hs.warsh
  generalize compT n t (warsh n t) = l at *
  generalize warsh n t = c at *
  have hsi : Sq n (redT n t l) := Sq.red hs hsl
  have hil := hsi.len
  have hll := hsl.len
  have hrll := rowsR_len l
  have hai := fun i j hi hj => atT_red hs hsl (i := i) (j := j) hi hj
  generalize redT n t l = u at *
  refine Reads.bodyF (rs := [.tmp 2]) Try.func28 rfl Try.ntmps28 rfl (by simp) ?_
  generalize hQr : retQ _ _ _ = Qr
  refine AW.seq fun K1 hK1 => ?_
  -- region 0
  refine AW.regionK 0 (fun _ => none) [0] [] ?_
  simp only [go_sem, reduceIte, reduceCtorEq, Nat.reduceAdd, Nat.reduceMul, Nat.reduceEqDiff, Nat.reduceLT, Nat.reduceLeDiff, Nat.reduceSub, Nat.reducePow, Nat.reduceBEq, Int.reduceToNat, List.reduceReplicate, hrl, hlen, hrll, hll]
  repeat with_reducible refine cj ?_ ?_
  all_goals try first | omega
  refine hK1 _ _ _ ?_; clear hK1
  refine AW.seq fun K2 hK2 => ?_
  -- region 1
  refine AW.regionK 0 (fun ii => if ii = 1 then some (.reads true (.rsl 1 (rowsR c))) else none) [0, 3] [] ?_
  simp only [go_sem, reduceIte, reduceCtorEq, Nat.reduceAdd, Nat.reduceMul, Nat.reduceEqDiff, Nat.reduceLT, Nat.reduceLeDiff, Nat.reduceSub, Nat.reducePow, Nat.reduceBEq, Int.reduceToNat, List.reduceReplicate, hrl, hlen, hrll, hll]
  repeat with_reducible refine cj ?_ ?_
  all_goals try first | (exact hcl) | omega | exact ent (by kernel_rfl)
  refine hK2 _ _ _ ?_; clear hK2
  refine AW.seq fun K3 hK3 => ?_
  -- region 2
  refine AW.regionK 0 (fun ii => if ii = 2 then some (.reads true (.rsl 1 (rowsR l))) else none) [0, 4] [] ?_
  simp only [go_sem, reduceIte, reduceCtorEq, Nat.reduceAdd, Nat.reduceMul, Nat.reduceEqDiff, Nat.reduceLT, Nat.reduceLeDiff, Nat.reduceSub, Nat.reducePow, Nat.reduceBEq, Int.reduceToNat, List.reduceReplicate, hrl, hlen, hrll, hll]
  repeat with_reducible refine cj ?_ ?_
  all_goals try first | (exact hco) | omega | exact ent (by kernel_rfl)
  refine hK3 _ _ _ ?_; clear hK3
  refine AW.seq fun K4 hK4 => ?_
  -- region 3
  refine AW.regionK 0 (fun _ => none) [0, 4, 5] [] ?_
  simp only [go_sem, reduceIte, reduceCtorEq, Nat.reduceAdd, Nat.reduceMul, Nat.reduceEqDiff, Nat.reduceLT, Nat.reduceLeDiff, Nat.reduceSub, Nat.reducePow, Nat.reduceBEq, Int.reduceToNat, List.reduceReplicate, hrl, hlen, hrll, hll]
  repeat with_reducible refine cj ?_ ?_
  all_goals try first | omega
  refine hK4 _ _ _ ?_; clear hK4
  refine AW.seq fun K5 hK5 => ?_
  refine AW.seq fun K6 hK6 => ?_
  -- region 4
  refine AW.regionK 0 (fun _ => none) [0, 4, 5, 6] [] ?_
  simp only [go_sem, reduceIte, reduceCtorEq, Nat.reduceAdd, Nat.reduceMul, Nat.reduceEqDiff, Nat.reduceLT, Nat.reduceLeDiff, Nat.reduceSub, Nat.reducePow, Nat.reduceBEq, Int.reduceToNat, List.reduceReplicate, hrl, hlen, hrll, hll]
  repeat with_reducible refine cj ?_ ?_
  all_goals try first | omega
  refine hK6 _ _ _ ?_; clear hK6
  refine AW.block ?_
  refine AW.nilOwn 5 200 1 (by simp only [go_sem, reduceIte, Nat.reduceEqDiff]) ?_
  refine AW.keep [0, 4, 5, 6] [200] ?_
  simp only [go_sem, reduceIte, Nat.reduceEqDiff]
  -- loop 1
  refine AW.loopE (fun mm ee ss kk => ∃ (i g v : Nat), n - i = mm ∧ ee = [(0, .rsl 1 (rowsR t)), (4, .rsl 1 (rowsR l)), (5, .sl ⟨200, g, none⟩ 0 i none), (6, .int .i64 (i : Nat))] ∧ ss = [(200, some ⟨g, v, 1, rowsO (u.take i)⟩)] ∧ (i ≤ n)) ?_ ?_
  · refine ⟨_, 0, ?_, ?_, rfl, ?henv, ?hstore, ?hst⟩
    case henv =>
      repeat' (first | rfl | refine env_cons ?_ ?_ | refine st_cons ?_ ?_ ?_ ?_ | refine int_eq ?_ | refine bool_eq ?_ | refine rsl_eq ?_ | refine osl_eq ?_ | refine sl_eq ?_ ?_ ?_ | refine ptr_eq ?_ ?_ ?_ | refine agg_eq ?_ | refine es_cons ?_ ?_ | refine row_cons ?_ ?_)
      all_goals (first | (simp; done) | omega | (simp; omega))
    case hstore =>
      repeat' (first | rfl | refine env_cons ?_ ?_ | refine st_cons ?_ ?_ ?_ ?_ | refine int_eq ?_ | refine bool_eq ?_ | refine rsl_eq ?_ | refine osl_eq ?_ | refine sl_eq ?_ ?_ ?_ | refine ptr_eq ?_ ?_ ?_ | refine agg_eq ?_ | refine es_cons ?_ ?_ | refine row_cons ?_ ?_)
      all_goals (first | (simp; done) | omega | (simp; omega))
    case hst =>
      first | trivial | omega | (simp; done) | (simp; omega)
  rintro mm ee ss kk ⟨i, g, v, rfl, rfl, rfl, hI⟩
  generalize hQl1 : thenQ _ _ = Ql1
  refine AW.seq fun K7 hK7 => ?_
  refine AW.seq fun K8 hK8 => ?_
  -- region 5
  refine AW.regionK 0 (fun _ => none) [0, 4, 5, 6, 17] [200] ?_
  simp only [go_sem, reduceIte, reduceCtorEq, Nat.reduceAdd, Nat.reduceMul, Nat.reduceEqDiff, Nat.reduceLT, Nat.reduceLeDiff, Nat.reduceSub, Nat.reducePow, Nat.reduceBEq, Int.reduceToNat, List.reduceReplicate, hrl, hlen, hrll, hll]
  repeat with_reducible refine cj ?_ ?_
  all_goals try first | omega
  refine hK8 _ _ _ ?_; clear hK8
  -- cond 1
  refine AW.cond rfl (by simp only [go_sem, reduceIte, reduceCtorEq, Nat.reduceAdd, Nat.reduceMul, Nat.reduceEqDiff, Nat.reduceLT, Nat.reduceLeDiff, Nat.reduceSub, Nat.reducePow, Nat.reduceBEq, Int.reduceToNat, List.reduceReplicate]) ?_ ?_
  · intro hb
    try simp only [hB, decide_eq_true_eq, decide_eq_false_iff_not] at hb
    have hrw := hsi.rowLen (i := i) (by omega)
    have hti := take_succT (t := u) (i := i) (by omega)
    have htl : (rowsO (u.take i)).length = i := by rw [rowsO_len]; simp; omega
    have htk : (rowsO (u.take i)).take i = rowsO (u.take i) := List.take_of_length_le (by omega)
    have hrow : ∀ j, j < n → (rowT u i).getD j false = (atT t i j && !atT l i j) := fun j hj => hai i j (by omega) hj
    generalize hb' : rowT u i = b at *
    have hap := rowsO_app (u.take i) b
    have hgl := fun x => app_get (rowsO (u.take i)) x htl
    have hsl2 := fun x y => app_set (rowsO (u.take i)) x y htl
    have hll2 := fun x => app_len (rowsO (u.take i)) x htl
    have hgr := rowsR_get (t := t) (i := i) (by omega)
    have hgr2 := rowsR_get (t := l) (i := i) (by omega)
    have hrt := hs.rowLen (i := i) (by omega)
    have hrt2 := hsl.rowLen (i := i) (by omega)
    refine AW.skip ?_
    refine hK7 _ _ _ ?_; clear hK7
    refine AW.seq fun K9 hK9 => ?_
    refine AW.block ?_
    refine AW.seq fun K10 hK10 => ?_
    -- region 7
    refine AW.regionK 0 (fun _ => none) [0, 4, 5, 6, 7] [22, 200] ?_
    simp only [go_sem, reduceIte, reduceCtorEq, Nat.reduceAdd, Nat.reduceMul, Nat.reduceEqDiff, Nat.reduceLT, Nat.reduceLeDiff, Nat.reduceSub, Nat.reducePow, Nat.reduceBEq, Int.reduceToNat, List.reduceReplicate, hrl, hlen, hrll, hll]
    repeat with_reducible refine cj ?_ ?_
    all_goals try first | omega
    refine hK10 _ _ _ ?_; clear hK10
    refine AW.seq fun K11 hK11 => ?_
    refine AW.seq fun K12 hK12 => ?_
    -- region 8
    refine AW.regionK 0 (fun _ => none) [0, 4, 5, 6, 7, 8] [22, 200] ?_
    simp only [go_sem, reduceIte, reduceCtorEq, Nat.reduceAdd, Nat.reduceMul, Nat.reduceEqDiff, Nat.reduceLT, Nat.reduceLeDiff, Nat.reduceSub, Nat.reducePow, Nat.reduceBEq, Int.reduceToNat, List.reduceReplicate, hrl, hlen, hrll, hll]
    repeat with_reducible refine cj ?_ ?_
    all_goals try first | omega
    refine hK12 _ _ _ ?_; clear hK12
    refine AW.block ?_
    -- loop 2
    refine AW.loopE (fun mm ee ss kk => ∃ (j g17 v17 g v : Nat), n - j = mm ∧ ee = [(0, .rsl 1 (rowsR t)), (4, .rsl 1 (rowsR l)), (5, .sl ⟨200, g, none⟩ 0 i none), (6, .int .i64 (i : Nat)), (7, .sl ⟨22, g17, none⟩ 0 n none), (8, .int .i64 (j : Nat))] ∧ ss = [(22, some ⟨g17, v17, 1, bools (fillB b n j)⟩), (200, some ⟨g, v, 1, rowsO (u.take i)⟩)] ∧ (j ≤ n)) ?_ ?_
    · refine ⟨_, 0, ?_, ?_, ?_, ?_, rfl, ?henv, ?hstore, ?hst⟩
      case henv =>
        repeat' (first | rfl | refine env_cons ?_ ?_ | refine st_cons ?_ ?_ ?_ ?_ | refine int_eq ?_ | refine bool_eq ?_ | refine rsl_eq ?_ | refine osl_eq ?_ | refine sl_eq ?_ ?_ ?_ | refine ptr_eq ?_ ?_ ?_ | refine agg_eq ?_ | refine es_cons ?_ ?_ | refine row_cons ?_ ?_)
        all_goals (first | (simp; done) | omega | (simp; omega))
      case hstore =>
        repeat' (first | rfl | refine env_cons ?_ ?_ | refine st_cons ?_ ?_ ?_ ?_ | refine int_eq ?_ | refine bool_eq ?_ | refine rsl_eq ?_ | refine osl_eq ?_ | refine sl_eq ?_ ?_ ?_ | refine ptr_eq ?_ ?_ ?_ | refine agg_eq ?_ | refine es_cons ?_ ?_ | refine row_cons ?_ ?_)
        all_goals (rw [fillB_zero]; simp [bools])
      case hst =>
        first | trivial | omega | (simp; done) | (simp; omega)
    rintro mm ee ss kk ⟨j, g17, v17, g, v, rfl, rfl, rfl, hI⟩
    generalize hQl2 : thenQ _ _ = Ql2
    refine AW.seq fun K13 hK13 => ?_
    refine AW.seq fun K14 hK14 => ?_
    -- region 9
    refine AW.regionK 0 (fun _ => none) [0, 4, 5, 6, 7, 8, 26] [22, 200] ?_
    simp only [go_sem, reduceIte, reduceCtorEq, Nat.reduceAdd, Nat.reduceMul, Nat.reduceEqDiff, Nat.reduceLT, Nat.reduceLeDiff, Nat.reduceSub, Nat.reducePow, Nat.reduceBEq, Int.reduceToNat, List.reduceReplicate, hrl, hlen, hrll, hll]
    repeat with_reducible refine cj ?_ ?_
    all_goals try first | omega
    refine hK14 _ _ _ ?_; clear hK14
    -- cond 2
    refine AW.cond rfl (by simp only [go_sem, reduceIte, reduceCtorEq, Nat.reduceAdd, Nat.reduceMul, Nat.reduceEqDiff, Nat.reduceLT, Nat.reduceLeDiff, Nat.reduceSub, Nat.reducePow, Nat.reduceBEq, Int.reduceToNat, List.reduceReplicate]) ?_ ?_
    · intro hb
      try simp only [hB, decide_eq_true_eq, decide_eq_false_iff_not] at hb
      have hfs := fillB_succ hrw (i := j) (by omega)
      have hfl := fillB_len hrw (i := j) (by omega)
      have hgb := bools_getD (l := rowT t i) (i := j) (by omega)
      have hgb2 := bools_getD (l := rowT l i) (i := j) (by omega)
      have hat : (rowT t i).getD j false = atT t i j := rfl
      have hat2 : (rowT l i).getD j false = atT l i j := rfl
      rw [hat] at hgb
      rw [hat2] at hgb2
      rw [hrow j (by omega)] at hfs
      refine AW.skip ?_
      refine hK13 _ _ _ ?_; clear hK13
      refine AW.seq fun K15 hK15 => ?_
      refine AW.block ?_
      -- region 11
      refine AW.regionK 0 (fun _ => none) [0, 4, 5, 6, 7, 8] [22, 200] ?_
      simp only [go_sem, reduceIte, reduceCtorEq, Nat.reduceAdd, Nat.reduceMul, Nat.reduceEqDiff, Nat.reduceLT, Nat.reduceLeDiff, Nat.reduceSub, Nat.reducePow, Nat.reduceBEq, Int.reduceToNat, List.reduceReplicate, hrl, hlen, hrll, hll, hgr, hrt, hgb, hgr2, hrt2, hgb2, hfl]
      repeat with_reducible refine cj ?_ ?_
      all_goals try first | ((intro hh; (repeat' apply And.intro) <;> first | exact hh | omega)) | (intros; (repeat' apply And.intro) <;> first | assumption | ((intro hh; (repeat' apply And.intro) <;> first | exact hh | omega))) | omega | (intro hgd; exact absurd hgd (by decide)) | rfl | (simp only [go_sem, reduceIte, reduceCtorEq, Nat.reduceAdd, Nat.reduceMul, Nat.reduceEqDiff, Nat.reduceLT, Nat.reduceLeDiff, Nat.reduceSub, Nat.reducePow, Nat.reduceBEq, Int.reduceToNat, List.reduceReplicate, hrl, hlen, hrll, hll, hgr, hrt, hgb, hgr2, hrt2, hgb2, hfl]; done) | (intro _hgd; simp_all [go_sem]; done)
      refine hK15 _ _ _ ?_; clear hK15
      -- region 10
      refine AW.regionK 0 (fun _ => none) [0, 4, 5, 6, 7, 8] [22, 200] ?_
      simp only [go_sem, reduceIte, reduceCtorEq, Nat.reduceAdd, Nat.reduceMul, Nat.reduceEqDiff, Nat.reduceLT, Nat.reduceLeDiff, Nat.reduceSub, Nat.reducePow, Nat.reduceBEq, Int.reduceToNat, List.reduceReplicate, hrl, hlen, hrll, hll]
      repeat with_reducible refine cj ?_ ?_
      all_goals try first | omega
      rw [← hQl2]
      change Exists _
      refine ⟨_, ?hm, j + 1, ?_, ?_, ?_, ?_, rfl, ?henv, ?hstore, ?hst⟩
      case henv =>
        repeat' (first | rfl | refine env_cons ?_ ?_ | refine st_cons ?_ ?_ ?_ ?_ | refine int_eq ?_ | refine bool_eq ?_ | refine rsl_eq ?_ | refine osl_eq ?_ | refine sl_eq ?_ ?_ ?_ | refine ptr_eq ?_ ?_ ?_ | refine agg_eq ?_ | refine es_cons ?_ ?_ | refine row_cons ?_ ?_)
        all_goals (first | (simp; done) | omega | (simp; omega))
      case hstore =>
        repeat' (first | rfl | refine env_cons ?_ ?_ | refine st_cons ?_ ?_ ?_ ?_ | refine int_eq ?_ | refine bool_eq ?_ | refine rsl_eq ?_ | refine osl_eq ?_ | refine sl_eq ?_ ?_ ?_ | refine ptr_eq ?_ ?_ ?_ | refine agg_eq ?_ | refine es_cons ?_ ?_ | refine row_cons ?_ ?_)
        all_goals (rw [← hfs])
      case hst =>
        first | trivial | omega | (simp; done) | (simp; omega)
      case hm => omega
    · intro hb
      try simp only [hB, decide_eq_true_eq, decide_eq_false_iff_not] at hb
      have hj : j = n := by omega
      subst hj
      rw [fillB_all hrw]
      refine AW.exit ?_
      rw [← hQl2]
      refine hK11 _ _ _ ?_; clear hK11
      -- region 12
      refine AW.regionK 0 (fun _ => none) [0, 4, 5, 6] [22, 200] ?_
      simp only [go_sem, reduceIte, reduceCtorEq, Nat.reduceAdd, Nat.reduceMul, Nat.reduceEqDiff, Nat.reduceLT, Nat.reduceLeDiff, Nat.reduceSub, Nat.reducePow, Nat.reduceBEq, Int.reduceToNat, List.reduceReplicate, hrl, hlen, hrll, hll, htk, htl]
      repeat with_reducible refine cj ?_ ?_
      all_goals try first | omega | (simp [scP, scalar]; done) | exact scP_words _ | exact scP_ints _ | exact scP_bools _
      refine hK9 _ _ _ ?_; clear hK9
      refine AW.adoptK 200 i 0 22 ?_
      simp only [go_sem, reduceIte, Nat.reduceEqDiff, hgl, hsl2, hll2]
      refine ⟨by decide, by rw [hrw], noOsl_bools _, ?_⟩
      refine AW.keep [0, 4, 5, 6] [200] ?_
      simp only [go_sem, reduceIte, Nat.reduceEqDiff, hap]
      -- region 6
      refine AW.regionK 0 (fun _ => none) [0, 4, 5, 6] [200] ?_
      simp only [go_sem, reduceIte, reduceCtorEq, Nat.reduceAdd, Nat.reduceMul, Nat.reduceEqDiff, Nat.reduceLT, Nat.reduceLeDiff, Nat.reduceSub, Nat.reducePow, Nat.reduceBEq, Int.reduceToNat, List.reduceReplicate, hrl, hlen, hrll, hll]
      repeat with_reducible refine cj ?_ ?_
      all_goals try first | omega
      rw [← hQl1]
      change Exists _
      refine ⟨_, ?hm, i + 1, ?_, ?_, rfl, ?henv, ?hstore, ?hst⟩
      case henv =>
        repeat' (first | rfl | refine env_cons ?_ ?_ | refine st_cons ?_ ?_ ?_ ?_ | refine int_eq ?_ | refine bool_eq ?_ | refine rsl_eq ?_ | refine osl_eq ?_ | refine sl_eq ?_ ?_ ?_ | refine ptr_eq ?_ ?_ ?_ | refine agg_eq ?_ | refine es_cons ?_ ?_ | refine row_cons ?_ ?_)
        all_goals (first | (simp; done) | omega | (simp; omega))
      case hstore =>
        repeat' (first | rfl | refine env_cons ?_ ?_ | refine st_cons ?_ ?_ ?_ ?_ | refine int_eq ?_ | refine bool_eq ?_ | refine rsl_eq ?_ | refine osl_eq ?_ | refine sl_eq ?_ ?_ ?_ | refine ptr_eq ?_ ?_ ?_ | refine agg_eq ?_ | refine es_cons ?_ ?_ | refine row_cons ?_ ?_)
        all_goals (rw [hti])
      case hst =>
        first | trivial | omega | (simp; done) | (simp; omega)
      case hm => omega
  · intro hb
    try simp only [hB, decide_eq_true_eq, decide_eq_false_iff_not] at hb
    refine AW.exit ?_
    rw [← hQl1]
    refine hK5 _ _ _ ?_; clear hK5
    refine AW.seq fun K16 hK16 => ?_
    -- region 13
    refine AW.regionK 0 (fun _ => none) [2] [200] ?_
    simp only [go_sem, reduceIte, reduceCtorEq, Nat.reduceAdd, Nat.reduceMul, Nat.reduceEqDiff, Nat.reduceLT, Nat.reduceLeDiff, Nat.reduceSub, Nat.reducePow, Nat.reduceBEq, Int.reduceToNat, List.reduceReplicate, hrl, hlen, hrll, hll]
    repeat with_reducible refine cj ?_ ?_
    all_goals try first | omega
    refine hK16 _ _ _ ?_; clear hK16
    refine AW.ret ?_
    rw [← hQr]
    simp only [go_sem, reduceIte, reduceCtorEq, Nat.reduceAdd, Nat.reduceMul, Nat.reduceEqDiff, Nat.reduceLT, Nat.reduceLeDiff, Nat.reduceSub, Nat.reducePow, Nat.reduceBEq, Int.reduceToNat, List.reduceReplicate, hrl, hlen, hrll, hll]
    have hi : i = n := by omega
    subst hi
    rw [List.take_of_length_le (by omega : u.length ≤ i), List.take_of_length_le (by rw [rowsO_len]; omega), vwcF_rowsO]
    exact Wk.refl _
theorem is_err (R : List (List AV)) (e f : Nat) (w : AV) (hf : f ≠ 0) (hR : R.length ≤ 9223372036854775807) : Reads Try.prog 23 false [.agg [.rsl 2 R], .int .i64 e, .int .i64 f, w] (.bool (decide (e = f) && decide (R.length = 0))) := by
  refine Reads.body (rs := [.tmp 8]) Try.func23 rfl Try.ntmps23 rfl (by simp) ?_
  generalize hQr : retQ _ _ _ = Qr
  refine AW.seq fun K1 hK1 => ?_
  -- region 0
  refine AW.regionK 0 (fun _ => none) [1, 2, 3, 4] [4] ?_
  simp only [go_sem, reduceIte, reduceCtorEq, Nat.reduceAdd, Nat.reduceMul, Nat.reduceEqDiff, Nat.reduceLT, Nat.reduceLeDiff, Nat.reduceSub, Nat.reducePow, Nat.reduceBEq, Int.reduceToNat, List.reduceReplicate]
  repeat with_reducible refine cj ?_ ?_
  all_goals try first | omega
  refine hK1 _ _ _ ?_; clear hK1
  refine AW.seq fun K2 hK2 => ?_
  refine AW.seq fun K3 hK3 => ?_
  -- region 1
  refine AW.regionK 0 (fun _ => none) [1, 2, 3, 4, 10] [4] ?_
  simp only [go_sem, reduceIte, reduceCtorEq, Nat.reduceAdd, Nat.reduceMul, Nat.reduceEqDiff, Nat.reduceLT, Nat.reduceLeDiff, Nat.reduceSub, Nat.reducePow, Nat.reduceBEq, Int.reduceToNat, List.reduceReplicate]
  repeat with_reducible refine cj ?_ ?_
  all_goals try first | omega
  refine hK3 _ _ _ ?_; clear hK3
  -- cond 1
  refine AW.cond rfl (by simp only [go_sem, reduceIte, reduceCtorEq, Nat.reduceAdd, Nat.reduceMul, Nat.reduceEqDiff, Nat.reduceLT, Nat.reduceLeDiff, Nat.reduceSub, Nat.reducePow, Nat.reduceBEq, Int.reduceToNat, List.reduceReplicate]) ?_ ?_
  · intro hb
    try simp only [hB, decide_eq_true_eq, decide_eq_false_iff_not] at hb
    refine AW.seq fun K4 hK4 => ?_
    -- region 2
    refine AW.regionK 0 (fun _ => none) [8] [] ?_
    simp only [go_sem, reduceIte, reduceCtorEq, Nat.reduceAdd, Nat.reduceMul, Nat.reduceEqDiff, Nat.reduceLT, Nat.reduceLeDiff, Nat.reduceSub, Nat.reducePow, Nat.reduceBEq, Int.reduceToNat, List.reduceReplicate]
    repeat with_reducible refine cj ?_ ?_
    all_goals try first | omega | (intros; (repeat' apply And.intro) <;> first | assumption | omega | decide) | (intro hgd; exact absurd hgd (by decide)) | rfl | (simp only [go_sem, reduceIte, reduceCtorEq, Nat.reduceAdd, Nat.reduceMul, Nat.reduceEqDiff, Nat.reduceLT, Nat.reduceLeDiff, Nat.reduceSub, Nat.reducePow, Nat.reduceBEq, Int.reduceToNat, List.reduceReplicate]; done) | (intro _hgd; simp_all [go_sem]; done)
    refine hK4 _ _ _ ?_; clear hK4
    refine AW.ret ?_
    rw [← hQr]
    simp only [go_sem, reduceIte, reduceCtorEq, Nat.reduceAdd, Nat.reduceMul, Nat.reduceEqDiff, Nat.reduceLT, Nat.reduceLeDiff, Nat.reduceSub, Nat.reducePow, Nat.reduceBEq, Int.reduceToNat, List.reduceReplicate]
    have hef : ((e : Int) = (f : Int)) = (e = f) := by (apply propext; omega)
    exact Wk.of_eq (by congr 1; simp [hef])
  · intro hb
    try simp only [hB, decide_eq_true_eq, decide_eq_false_iff_not] at hb
    exfalso; omega
theorem is_ok (n : Nat) (a w : List (List Bool)) (ha : Sq n a) (hw : Sq n w) (hn : n ≤ 512) : Reads Try.prog 23 false [relB a, .int .i64 ((0 : Nat) : Int), .int .i64 ((0 : Nat) : Int), .rsl 1 (rowsR w)] (.bool (decide (a = w))) := by
  have hf := (from_r n w hw hn).old
  have hs := same_r n n a w ha hw hn hn
  unfold relB at *
  refine Reads.body (rs := [.tmp 8]) Try.func23 rfl Try.ntmps23 rfl (by simp) ?_
  generalize hQr : retQ _ _ _ = Qr
  refine AW.seq fun K1 hK1 => ?_
  -- region 0
  refine AW.regionK 0 (fun _ => none) [1, 2, 3, 4] [4] ?_
  simp only [go_sem, reduceIte, reduceCtorEq, Nat.reduceAdd, Nat.reduceMul, Nat.reduceEqDiff, Nat.reduceLT, Nat.reduceLeDiff, Nat.reduceSub, Nat.reducePow, Nat.reduceBEq, Int.reduceToNat, List.reduceReplicate]
  repeat with_reducible refine cj ?_ ?_
  all_goals try first | omega
  refine hK1 _ _ _ ?_; clear hK1
  refine AW.seq fun K2 hK2 => ?_
  refine AW.seq fun K3 hK3 => ?_
  -- region 1
  refine AW.regionK 0 (fun _ => none) [1, 2, 3, 4, 10] [4] ?_
  simp only [go_sem, reduceIte, reduceCtorEq, Nat.reduceAdd, Nat.reduceMul, Nat.reduceEqDiff, Nat.reduceLT, Nat.reduceLeDiff, Nat.reduceSub, Nat.reducePow, Nat.reduceBEq, Int.reduceToNat, List.reduceReplicate]
  repeat with_reducible refine cj ?_ ?_
  all_goals try first | omega
  refine hK3 _ _ _ ?_; clear hK3
  -- cond 1
  refine AW.cond rfl (by simp only [go_sem, reduceIte, reduceCtorEq, Nat.reduceAdd, Nat.reduceMul, Nat.reduceEqDiff, Nat.reduceLT, Nat.reduceLeDiff, Nat.reduceSub, Nat.reducePow, Nat.reduceBEq, Int.reduceToNat, List.reduceReplicate]) ?_ ?_
  · intro hb
    try simp only [hB, decide_eq_true_eq, decide_eq_false_iff_not] at hb
    exfalso; simp at hb
  · intro hb
    try simp only [hB, decide_eq_true_eq, decide_eq_false_iff_not] at hb
    refine AW.skip ?_
    refine hK2 _ _ _ ?_; clear hK2
    refine AW.seq fun K4 hK4 => ?_
    -- region 3
    refine AW.regionD mixed 0 (fun ii => if ii = 5 then some (.reads false (.agg [.rsl 2 (tabR w)])) else if ii = 6 then some (.reads false (.bool (decide (a = w)))) else none) [8] [] ?_
    simp only [go_sem, reduceIte, reduceCtorEq, Nat.reduceAdd, Nat.reduceMul, Nat.reduceEqDiff, Nat.reduceLT, Nat.reduceLeDiff, Nat.reduceSub, Nat.reducePow, Nat.reduceBEq, Int.reduceToNat, List.reduceReplicate]
    repeat with_reducible refine cj ?_ ?_
    all_goals try first | (first | (intro hh; exact ⟨hh, hf⟩) | (intro hh; exact ⟨hh, hs⟩)) | (intros; (repeat' apply And.intro) <;> first | assumption | (first | (intro hh; exact ⟨hh, hf⟩) | (intro hh; exact ⟨hh, hs⟩))) | omega | exact chk (by kernel_rfl) | exact ent (by kernel_rfl) | (intro hgd; exact absurd hgd (by decide)) | rfl | (simp only [go_sem, reduceIte, reduceCtorEq, Nat.reduceAdd, Nat.reduceMul, Nat.reduceEqDiff, Nat.reduceLT, Nat.reduceLeDiff, Nat.reduceSub, Nat.reducePow, Nat.reduceBEq, Int.reduceToNat, List.reduceReplicate]; done) | (intro _hgd; simp_all [go_sem]; done)
    refine hK4 _ _ _ ?_; clear hK4
    refine AW.ret ?_
    rw [← hQr]
    simp only [go_sem, reduceIte, reduceCtorEq, Nat.reduceAdd, Nat.reduceMul, Nat.reduceEqDiff, Nat.reduceLT, Nat.reduceLeDiff, Nat.reduceSub, Nat.reducePow, Nat.reduceBEq, Int.reduceToNat, List.reduceReplicate]
    exact Wk.of_eq (by simp)
end Go.Proofs.R
namespace Go.Proofs.R
open Go.AM Go
set_option maxRecDepth 100000
set_option maxHeartbeats 2000000
theorem clos_spec (rs us : List USet) (hl : longR rs) (hl2 : longR us) (hok : ∀ x ∈ rs, okW x.W) (hok2 : ∀ x ∈ us, okW x.W) : ∃ (T1 T2 T3 T4 : List (List Bool)) (e1 e2 e3 e4 : Nat),
    Reads Try.prog 21 false [relV rs] (.tup [relB T1, .int .i64 e1]) ∧ Reads Try.prog 22 false [relV rs] (.tup [relB T2, .int .i64 e2]) ∧
    Reads Try.prog 20 false [relV rs] (.tup [relB T3, .int .i64 e3]) ∧ Reads Try.prog 19 false [relV rs, relV us] (.tup [relB T4, .int .i64 e4]) ∧
    (validR rs = false → T1 = [] ∧ T2 = [] ∧ T3 = [] ∧ T4 = [] ∧ e1 = 1 ∧ e2 = 1 ∧ e3 = 1 ∧ e4 = 1) ∧
    (validR rs = true → ∃ t, rs = t.map SB ∧ Sq rs.length t ∧ rs.length ≤ 512 ∧ e1 = 0 ∧ T1 = warsh rs.length t ∧ e3 = 0 ∧ T3 = invT rs.length t ∧
      (acyc rs.length t = true → e2 = 0 ∧ T2 = redT rs.length t (compT rs.length t (warsh rs.length t))) ∧ (acyc rs.length t = false → e2 = 10 ∧ T2 = []) ∧
      (validR us = true → rs.length = us.length → ∃ b, us = b.map SB ∧ Sq rs.length b ∧ e4 = 0 ∧ T4 = compT rs.length t b) ∧ (validR us = false ∨ rs.length ≠ us.length → e4 = 1 ∧ T4 = [])) := by
  by_cases hv : validR rs = true
  · obtain ⟨t, ht, hs, hn⟩ := rel_of hok hv
    have h1 := closure_g rs.length t hs hn
    have h3 := inverse_g rs.length t hs hn
    obtain ⟨T2, e2, h2, h2a, h2b⟩ : ∃ (T2 : List (List Bool)) (e2 : Nat), Reads Try.prog 22 false [relB t] (.tup [relB T2, .int .i64 e2]) ∧ (acyc rs.length t = true → e2 = 0 ∧ T2 = redT rs.length t (compT rs.length t (warsh rs.length t))) ∧ (acyc rs.length t = false → e2 = 10 ∧ T2 = []) := by
      by_cases ha : acyc rs.length t = true
      · exact ⟨_, 0, reduction_g rs.length t hs hn ha, fun _ => ⟨rfl, rfl⟩, fun h => (by rw [ha] at h; cases h)⟩
      · have hf : acyc rs.length t = false := by simpa using ha
        exact ⟨[], 10, reduction_c rs.length t hs hn hf, fun h => absurd h ha, fun _ => ⟨rfl, rfl⟩⟩
    rw [relB_SB, ← ht] at h1 h2 h3
    obtain ⟨T4, e4, h4, h4a, h4b⟩ : ∃ (T4 : List (List Bool)) (e4 : Nat), Reads Try.prog 19 false [relV rs, relV us] (.tup [relB T4, .int .i64 e4]) ∧ (validR us = true → rs.length = us.length → ∃ b, us = b.map SB ∧ Sq rs.length b ∧ e4 = 0 ∧ T4 = compT rs.length t b) ∧ (validR us = false ∨ rs.length ≠ us.length → e4 = 1 ∧ T4 = []) := by
      by_cases hu : validR us = true ∧ rs.length = us.length
      · obtain ⟨b, hb1, hb2, hb3⟩ := rel_of hok2 hu.1
        rw [← hu.2] at hb2
        have h4 := compose_g rs.length t b hs hb2 hn
        rw [relB_SB t, ← ht, relB_SB b, ← hb1] at h4
        exact ⟨_, 0, h4, fun _ _ => ⟨b, hb1, hb2, rfl, rfl⟩, fun h => by rcases h with h | h; (rw [hu.1] at h; cases h); exact absurd hu.2 h⟩
      · have hf : validR us = false ∨ rs.length ≠ us.length := by
          by_cases h : validR us = true
          · exact .inr fun e => hu ⟨h, e⟩
          · exact .inl (by simpa using h)
        exact ⟨[], 1, compose_e rs us hl hl2 (.inr hf), fun h1 h2 => absurd ⟨h1, h2⟩ hu, fun _ => ⟨rfl, rfl⟩⟩
    exact ⟨_, T2, _, T4, 0, e2, 0, e4, h1, h2, h3, h4, fun h => (by rw [hv] at h; cases h), fun _ => ⟨t, ht, hs, hn, rfl, rfl, rfl, rfl, h2a, h2b, h4a, h4b⟩⟩
  · have hf : validR rs = false := by simpa using hv
    exact ⟨[], [], [], [], 1, 1, 1, 1, closure_e rs hl hf, reduction_e rs hl hf, inverse_e rs hl hf, compose_e rs us hl hl2 (.inl hf), fun _ => ⟨rfl, rfl, rfl, rfl, rfl, rfl, rfl, rfl⟩, fun h => absurd h hv⟩
theorem law_closures (rs us : List USet) (hl : longR rs) (hl2 : longR us) (hok : ∀ x ∈ rs, okW x.W) (hok2 : ∀ x ∈ us, okW x.W) : Reads Try.prog 5 false [relV rs, relV us] (.bool true) := by
  have haw := awake_r
  have hgr : Reads Try.prog 10 true [.rsl 1 [[.rsl 2 (rs.map rowV)], [.rsl 2 (us.map rowV)]]] (.bool ([rs, us].any greatB)) := Reads.flat (great_r [rs, us] (by simp) (by simpa using ⟨hl, hl2⟩)) rfl
  have hv1 := rrvalid_r rs hl.1 hl.2
  have hv2 := rrvalid_r us hl2.1 hl2.2
  have hll := hl.1
  have hll2 := hl2.1
  obtain ⟨T1, T2, T3, T4, e1, e2, e3, e4, h1, h2, h3, h4, hE, hG⟩ := clos_spec rs us hl hl2 hok hok2
  have her1 := is_err (tabR []) 1 1 .nilsl (by decide) (by simp [tabR])
  have her10 := is_err (tabR []) 10 10 .nilsl (by decide) (by simp [tabR])
  have et : (decide ((1 : Nat) = 1) && decide ((tabR []).length = 0)) = true := rfl
  have et10 : (decide ((10 : Nat) = 10) && decide ((tabR []).length = 0)) = true := rfl
  rw [et] at her1
  rw [et10] at her10
  unfold relB relV at *
  refine Reads.body (rs := [.tmp 4]) Try.func5 rfl Try.ntmps5 rfl (by simp) ?_
  generalize hQr : retQ _ _ _ = Qr
  refine AW.seq fun K1 hK1 => ?_
  -- region 0
  refine AW.regionK 0 (fun _ => none) [2, 3] [2, 3] ?_
  simp only [go_sem, reduceIte, reduceCtorEq, Nat.reduceAdd, Nat.reduceMul, Nat.reduceEqDiff, Nat.reduceLT, Nat.reduceLeDiff, Nat.reduceSub, Nat.reducePow, Nat.reduceBEq, Int.reduceToNat, List.reduceReplicate]
  repeat with_reducible refine cj ?_ ?_
  all_goals try first | omega
  refine hK1 _ _ _ ?_; clear hK1
  refine AW.seq fun K2 hK2 => ?_
  refine AW.seq fun K3 hK3 => ?_
  -- region 1
  refine AW.regionK 0 (fun ii => if ii = 0 then some (.reads false (.bool true)) else none) [2, 3, 15] [2, 3] ?_
  simp only [go_sem, reduceIte, reduceCtorEq, Nat.reduceAdd, Nat.reduceMul, Nat.reduceEqDiff, Nat.reduceLT, Nat.reduceLeDiff, Nat.reduceSub, Nat.reducePow, Nat.reduceBEq, Int.reduceToNat, List.reduceReplicate]
  repeat with_reducible refine cj ?_ ?_
  all_goals try first | (exact haw) | omega | exact ent (by kernel_rfl)
  refine hK3 _ _ _ ?_; clear hK3
  -- cond 1
  refine AW.cond rfl (by simp only [go_sem, reduceIte, reduceCtorEq, Nat.reduceAdd, Nat.reduceMul, Nat.reduceEqDiff, Nat.reduceLT, Nat.reduceLeDiff, Nat.reduceSub, Nat.reducePow, Nat.reduceBEq, Int.reduceToNat, List.reduceReplicate]) ?_ ?_
  · intro hb
    try simp only [hB, decide_eq_true_eq, decide_eq_false_iff_not] at hb
    simp at hb
  · intro hb
    try simp only [hB, decide_eq_true_eq, decide_eq_false_iff_not] at hb
    refine AW.skip ?_
    refine hK2 _ _ _ ?_; clear hK2
    refine AW.seq fun K4 hK4 => ?_
    refine AW.seq fun K5 hK5 => ?_
    -- region 3
    refine AW.regionK 0 (fun ii => if ii = 3 then some (.reads true (.bool ([rs, us].any greatB))) else none) [2, 3, 19] [2, 3] ?_
    simp only [go_sem, reduceIte, reduceCtorEq, Nat.reduceAdd, Nat.reduceMul, Nat.reduceEqDiff, Nat.reduceLT, Nat.reduceLeDiff, Nat.reduceSub, Nat.reducePow, Nat.reduceBEq, Int.reduceToNat, List.reduceReplicate]
    repeat with_reducible refine cj ?_ ?_
    all_goals try first | (exact hgr) | omega | exact ent (by kernel_rfl)
    refine hK5 _ _ _ ?_; clear hK5
    -- cond 2
    refine AW.cond rfl (by simp only [go_sem, reduceIte, reduceCtorEq, Nat.reduceAdd, Nat.reduceMul, Nat.reduceEqDiff, Nat.reduceLT, Nat.reduceLeDiff, Nat.reduceSub, Nat.reducePow, Nat.reduceBEq, Int.reduceToNat, List.reduceReplicate]) ?_ ?_
    · intro hb
      try simp only [hB, decide_eq_true_eq, decide_eq_false_iff_not] at hb
      refine AW.seq fun K6 hK6 => ?_
      -- region 4
      refine AW.regionK 0 (fun _ => none) [4] [] ?_
      simp only [go_sem, reduceIte, reduceCtorEq, Nat.reduceAdd, Nat.reduceMul, Nat.reduceEqDiff, Nat.reduceLT, Nat.reduceLeDiff, Nat.reduceSub, Nat.reducePow, Nat.reduceBEq, Int.reduceToNat, List.reduceReplicate]
      repeat with_reducible refine cj ?_ ?_
      all_goals try first | omega
      refine hK6 _ _ _ ?_; clear hK6
      refine AW.ret ?_
      rw [← hQr]
      simp only [go_sem, reduceIte, reduceCtorEq, Nat.reduceAdd, Nat.reduceMul, Nat.reduceEqDiff, Nat.reduceLT, Nat.reduceLeDiff, Nat.reduceSub, Nat.reducePow, Nat.reduceBEq, Int.reduceToNat, List.reduceReplicate]
      exact Wk.refl _
    · intro hb
      try simp only [hB, decide_eq_true_eq, decide_eq_false_iff_not] at hb
      refine AW.skip ?_
      refine hK4 _ _ _ ?_; clear hK4
      refine AW.seq fun K7 hK7 => ?_
      -- region 5
      refine AW.regionK 0 (fun ii => if ii = 1 then some (.reads false (.tup [.agg [.rsl 2 (tabR T1)], .int .i64 e1])) else none) [2, 3, 5, 6] [2, 3, 5] ?_
      simp only [go_sem, reduceIte, reduceCtorEq, Nat.reduceAdd, Nat.reduceMul, Nat.reduceEqDiff, Nat.reduceLT, Nat.reduceLeDiff, Nat.reduceSub, Nat.reducePow, Nat.reduceBEq, Int.reduceToNat, List.reduceReplicate]
      repeat with_reducible refine cj ?_ ?_
      all_goals try first | (exact h1) | omega | exact ent (by kernel_rfl)
      refine hK7 _ _ _ ?_; clear hK7
      refine AW.seq fun K8 hK8 => ?_
      -- region 6
      refine AW.regionK 0 (fun ii => if ii = 1 then some (.reads false (.tup [.agg [.rsl 2 (tabR T2)], .int .i64 e2])) else none) [2, 3, 5, 6, 7, 8] [2, 3, 5, 7] ?_
      simp only [go_sem, reduceIte, reduceCtorEq, Nat.reduceAdd, Nat.reduceMul, Nat.reduceEqDiff, Nat.reduceLT, Nat.reduceLeDiff, Nat.reduceSub, Nat.reducePow, Nat.reduceBEq, Int.reduceToNat, List.reduceReplicate]
      repeat with_reducible refine cj ?_ ?_
      all_goals try first | (exact h2) | omega | exact ent (by kernel_rfl)
      refine hK8 _ _ _ ?_; clear hK8
      refine AW.seq fun K9 hK9 => ?_
      -- region 7
      refine AW.regionK 0 (fun ii => if ii = 1 then some (.reads false (.tup [.agg [.rsl 2 (tabR T3)], .int .i64 e3])) else none) [2, 3, 5, 6, 7, 8, 9, 10] [2, 3, 5, 7, 9] ?_
      simp only [go_sem, reduceIte, reduceCtorEq, Nat.reduceAdd, Nat.reduceMul, Nat.reduceEqDiff, Nat.reduceLT, Nat.reduceLeDiff, Nat.reduceSub, Nat.reducePow, Nat.reduceBEq, Int.reduceToNat, List.reduceReplicate]
      repeat with_reducible refine cj ?_ ?_
      all_goals try first | (exact h3) | omega | exact ent (by kernel_rfl)
      refine hK9 _ _ _ ?_; clear hK9
      refine AW.seq fun K10 hK10 => ?_
      -- region 8
      refine AW.regionK 0 (fun ii => if ii = 2 then some (.reads false (.tup [.agg [.rsl 2 (tabR T4)], .int .i64 e4])) else none) [2, 3, 5, 6, 7, 8, 9, 10, 11, 12] [2, 3, 5, 7, 9, 11] ?_
      simp only [go_sem, reduceIte, reduceCtorEq, Nat.reduceAdd, Nat.reduceMul, Nat.reduceEqDiff, Nat.reduceLT, Nat.reduceLeDiff, Nat.reduceSub, Nat.reducePow, Nat.reduceBEq, Int.reduceToNat, List.reduceReplicate]
      repeat with_reducible refine cj ?_ ?_
      all_goals try first | (exact h4) | omega | exact ent (by kernel_rfl)
      refine hK10 _ _ _ ?_; clear hK10
      refine AW.seq fun K11 hK11 => ?_
      refine AW.seq fun K12 hK12 => ?_
      -- region 9
      refine AW.regionK 0 (fun ii => if ii = 1 then some (.reads false (.bool (validR rs))) else none) [2, 3, 5, 6, 7, 8, 9, 10, 11, 12, 43] [2, 3, 5, 7, 9, 11] ?_
      simp only [go_sem, reduceIte, reduceCtorEq, Nat.reduceAdd, Nat.reduceMul, Nat.reduceEqDiff, Nat.reduceLT, Nat.reduceLeDiff, Nat.reduceSub, Nat.reducePow, Nat.reduceBEq, Int.reduceToNat, List.reduceReplicate]
      repeat with_reducible refine cj ?_ ?_
      all_goals try first | (exact hv1) | omega | exact ent (by kernel_rfl)
      refine hK12 _ _ _ ?_; clear hK12
      -- cond 3
      refine AW.cond rfl (by simp only [go_sem, reduceIte, reduceCtorEq, Nat.reduceAdd, Nat.reduceMul, Nat.reduceEqDiff, Nat.reduceLT, Nat.reduceLeDiff, Nat.reduceSub, Nat.reducePow, Nat.reduceBEq, Int.reduceToNat, List.reduceReplicate]) ?_ ?_
      · intro hb
        try simp only [hB, decide_eq_true_eq, decide_eq_false_iff_not] at hb
        obtain ⟨rfl, rfl, rfl, rfl, rfl, rfl, rfl, rfl⟩ := hE hb
        refine AW.seq fun K13 hK13 => ?_
        -- region 10
        refine AW.regionK 0 (fun ii => if ii = 2 then some (.reads false (.bool true)) else if ii = 6 then some (.reads false (.bool true)) else if ii = 11 then some (.reads false (.bool true)) else if ii = 16 then some (.reads false (.bool true)) else none) [4] [] ?_
        simp only [go_sem, reduceIte, reduceCtorEq, Nat.reduceAdd, Nat.reduceMul, Nat.reduceEqDiff, Nat.reduceLT, Nat.reduceLeDiff, Nat.reduceSub, Nat.reducePow, Nat.reduceBEq, Int.reduceToNat, List.reduceReplicate]
        repeat with_reducible refine cj ?_ ?_
        all_goals try first | (first | exact her1 | (intro hh; exact ⟨hh, her1⟩)) | (intros; (repeat' apply And.intro) <;> first | assumption | (first | exact her1 | (intro hh; exact ⟨hh, her1⟩))) | omega | exact ent (by kernel_rfl) | (intro hgd; exact absurd hgd (by decide)) | rfl | (simp only [go_sem, reduceIte, reduceCtorEq, Nat.reduceAdd, Nat.reduceMul, Nat.reduceEqDiff, Nat.reduceLT, Nat.reduceLeDiff, Nat.reduceSub, Nat.reducePow, Nat.reduceBEq, Int.reduceToNat, List.reduceReplicate]; done) | (intro _hgd; simp_all [go_sem]; done)
        refine hK13 _ _ _ ?_; clear hK13
        refine AW.ret ?_
        rw [← hQr]
        simp only [go_sem, reduceIte, reduceCtorEq, Nat.reduceAdd, Nat.reduceMul, Nat.reduceEqDiff, Nat.reduceLT, Nat.reduceLeDiff, Nat.reduceSub, Nat.reducePow, Nat.reduceBEq, Int.reduceToNat, List.reduceReplicate]
        exact Wk.of_eq (by simp)
      · intro hb
        try simp only [hB, decide_eq_true_eq, decide_eq_false_iff_not] at hb
        obtain ⟨t, ht, hs, hn, rfl, hT1, rfl, hT3, hqA, hqB, hqC, hqD⟩ := hG hb
        have ea : rs.map rowV = tabR t := by rw [tabR_SB, ← ht]
        rw [ea]
        have hlt : (tabR t).length = rs.length := by rw [tabR_len, hs.len]
        have htab := (table_r rs.length t hs hn).old
        have hrc := (rclosure_r rs.length t hs hn).old
        have hri := (rinverse_r rs.length t hs hn).old
        have hra := racyclic_r rs.length t hs hn
        have hrr := (rreduction_r rs.length t hs hn).old
        have i1 := is_ok rs.length _ _ hs.warsh hs.warsh hn
        have i3 := is_ok rs.length _ _ (Sq.inv (n := rs.length) (t := t)) (Sq.inv (n := rs.length) (t := t)) hn
        rw [decide_eq_true rfl] at i1 i3
        rw [← hT1] at hrc i1
        rw [← hT3] at hri i3
        have hcmp := fun b hb => (rcompose_r rs.length t b hs hb hn).old
        have htb := fun b hb => (table_r rs.length b hb hn).old
        have ic := fun b (hb : Sq rs.length b) => is_ok rs.length (compT rs.length t b) (compT rs.length t b) (Sq.comp hb) (Sq.comp hb) hn
        have ir := is_ok rs.length (redT rs.length t (compT rs.length t (warsh rs.length t))) (redT rs.length t (compT rs.length t (warsh rs.length t))) (Sq.red hs (Sq.comp hs.warsh)) (Sq.red hs (Sq.comp hs.warsh)) hn
        rw [decide_eq_true rfl] at ir
        unfold relB at *
        refine AW.skip ?_
        refine hK11 _ _ _ ?_; clear hK11
        refine AW.seq fun K14 hK14 => ?_
        -- region 11
        refine AW.regionK 0 (fun ii => if ii = 1 then some (.reads false (.rsl 1 (rowsR t))) else none) [2, 3, 5, 6, 7, 8, 9, 10, 11, 12, 13] [2, 3, 5, 7, 9, 11] ?_
        simp only [go_sem, reduceIte, reduceCtorEq, Nat.reduceAdd, Nat.reduceMul, Nat.reduceEqDiff, Nat.reduceLT, Nat.reduceLeDiff, Nat.reduceSub, Nat.reducePow, Nat.reduceBEq, Int.reduceToNat, List.reduceReplicate]
        repeat with_reducible refine cj ?_ ?_
        all_goals try first | (exact htab) | omega | exact ent (by kernel_rfl)
        refine hK14 _ _ _ ?_; clear hK14
        refine AW.seq fun K15 hK15 => ?_
        refine AW.seq fun K16 hK16 => ?_
        -- region 12
        refine AW.regionD mixed 0 (fun ii => if ii = 3 then some (.reads false (.rsl 1 (rowsR T1))) else if ii = 4 then some (.reads false (.bool true)) else if ii = 10 then some (.reads false (.rsl 1 (rowsR T3))) else if ii = 11 then some (.reads false (.bool true)) else none) [2, 3, 7, 8, 11, 12, 13, 77] [2, 3, 7, 11] ?_
        simp only [go_sem, reduceIte, reduceCtorEq, Nat.reduceAdd, Nat.reduceMul, Nat.reduceEqDiff, Nat.reduceLT, Nat.reduceLeDiff, Nat.reduceSub, Nat.reducePow, Nat.reduceBEq, Int.reduceToNat, List.reduceReplicate]
        repeat with_reducible refine cj ?_ ?_
        all_goals try first | (first | exact hrc | exact i1 | (intro hh; exact ⟨hh, hri⟩) | (intro hh; exact ⟨hh, i3⟩)) | (intros; (repeat' apply And.intro) <;> first | assumption | (first | exact hrc | exact i1 | (intro hh; exact ⟨hh, hri⟩) | (intro hh; exact ⟨hh, i3⟩))) | omega | exact chk (by kernel_rfl) | exact ent (by kernel_rfl) | (intro hgd; exact absurd hgd (by decide)) | rfl | (simp only [go_sem, reduceIte, reduceCtorEq, Nat.reduceAdd, Nat.reduceMul, Nat.reduceEqDiff, Nat.reduceLT, Nat.reduceLeDiff, Nat.reduceSub, Nat.reducePow, Nat.reduceBEq, Int.reduceToNat, List.reduceReplicate]; done) | (intro _hgd; simp_all [go_sem]; done)
        refine hK16 _ _ _ ?_; clear hK16
        -- cond 4
        refine AW.cond rfl (by simp only [go_sem, reduceIte, reduceCtorEq, Nat.reduceAdd, Nat.reduceMul, Nat.reduceEqDiff, Nat.reduceLT, Nat.reduceLeDiff, Nat.reduceSub, Nat.reducePow, Nat.reduceBEq, Int.reduceToNat, List.reduceReplicate]) ?_ ?_
        · intro hb
          try simp only [hB, decide_eq_true_eq, decide_eq_false_iff_not] at hb
          exfalso; simp at hb
        · intro hb
          try simp only [hB, decide_eq_true_eq, decide_eq_false_iff_not] at hb
          refine AW.skip ?_
          refine hK15 _ _ _ ?_; clear hK15
          refine AW.seq fun K17 hK17 => ?_
          refine AW.seq fun K18 hK18 => ?_
          -- region 14
          refine AW.regionK 0 (fun ii => if ii = 1 then some (.reads false (.bool (acyc rs.length t))) else none) [2, 3, 7, 8, 11, 12, 13, 80] [2, 3, 7, 11] ?_
          simp only [go_sem, reduceIte, reduceCtorEq, Nat.reduceAdd, Nat.reduceMul, Nat.reduceEqDiff, Nat.reduceLT, Nat.reduceLeDiff, Nat.reduceSub, Nat.reducePow, Nat.reduceBEq, Int.reduceToNat, List.reduceReplicate]
          repeat with_reducible refine cj ?_ ?_
          all_goals try first | (exact hra) | omega | exact ent (by kernel_rfl)
          refine hK18 _ _ _ ?_; clear hK18
          -- cond 5
          refine AW.cond rfl (by simp only [go_sem, reduceIte, reduceCtorEq, Nat.reduceAdd, Nat.reduceMul, Nat.reduceEqDiff, Nat.reduceLT, Nat.reduceLeDiff, Nat.reduceSub, Nat.reducePow, Nat.reduceBEq, Int.reduceToNat, List.reduceReplicate]) ?_ ?_
          · intro hb
            try simp only [hB, decide_eq_true_eq, decide_eq_false_iff_not] at hb
            obtain ⟨rfl, rfl⟩ := hqB hb
            refine AW.seq fun K19 hK19 => ?_
            -- region 15
            refine AW.regionK 0 (fun ii => if ii = 2 then some (.reads false (.bool true)) else none) [2, 3, 11, 12, 13, 84] [2, 3, 11] ?_
            simp only [go_sem, reduceIte, reduceCtorEq, Nat.reduceAdd, Nat.reduceMul, Nat.reduceEqDiff, Nat.reduceLT, Nat.reduceLeDiff, Nat.reduceSub, Nat.reducePow, Nat.reduceBEq, Int.reduceToNat, List.reduceReplicate]
            repeat with_reducible refine cj ?_ ?_
            all_goals try first | (exact her10) | omega | exact ent (by kernel_rfl)
            refine hK19 _ _ _ ?_; clear hK19
            -- cond 6
            refine AW.cond rfl (by simp only [go_sem, reduceIte, reduceCtorEq, Nat.reduceAdd, Nat.reduceMul, Nat.reduceEqDiff, Nat.reduceLT, Nat.reduceLeDiff, Nat.reduceSub, Nat.reducePow, Nat.reduceBEq, Int.reduceToNat, List.reduceReplicate]) ?_ ?_
            · intro hb
              try simp only [hB, decide_eq_true_eq, decide_eq_false_iff_not] at hb
              exfalso; simp at hb
            · intro hb
              try simp only [hB, decide_eq_true_eq, decide_eq_false_iff_not] at hb
              refine AW.skip ?_
              refine hK17 _ _ _ ?_; clear hK17
              refine AW.seq fun K20 hK20 => ?_
              refine AW.seq fun K21 hK21 => ?_
              -- region 19
              refine AW.regionK 0 (fun ii => if ii = 1 then some (.reads false (.bool (validR us))) else none) [3, 11, 12, 13, 102] [3, 11] ?_
              simp only [go_sem, reduceIte, reduceCtorEq, Nat.reduceAdd, Nat.reduceMul, Nat.reduceEqDiff, Nat.reduceLT, Nat.reduceLeDiff, Nat.reduceSub, Nat.reducePow, Nat.reduceBEq, Int.reduceToNat, List.reduceReplicate, hlt]
              repeat with_reducible refine cj ?_ ?_
              all_goals try first | (exact hv2) | (intros; (repeat' apply And.intro) <;> first | assumption | (exact hv2)) | omega | exact ent (by kernel_rfl) | (intro hgd; exact absurd hgd (by decide)) | rfl | (simp only [go_sem, reduceIte, reduceCtorEq, Nat.reduceAdd, Nat.reduceMul, Nat.reduceEqDiff, Nat.reduceLT, Nat.reduceLeDiff, Nat.reduceSub, Nat.reducePow, Nat.reduceBEq, Int.reduceToNat, List.reduceReplicate, hlt]; done) | (intro _hgd; simp_all [go_sem]; done)
              refine hK21 _ _ _ ?_; clear hK21
              -- cond 8
              refine AW.cond rfl (by simp only [go_sem, reduceIte, reduceCtorEq, Nat.reduceAdd, Nat.reduceMul, Nat.reduceEqDiff, Nat.reduceLT, Nat.reduceLeDiff, Nat.reduceSub, Nat.reducePow, Nat.reduceBEq, Int.reduceToNat, List.reduceReplicate]) ?_ ?_
              · intro hb
                try simp only [hB, decide_eq_true_eq, decide_eq_false_iff_not] at hb
                obtain ⟨rfl, rfl⟩ := hqD (by rcases hb with hb | hb; exact .inl hb; exact .inr (by omega))
                refine AW.seq fun K22 hK22 => ?_
                -- region 20
                refine AW.regionK 0 (fun ii => if ii = 2 then some (.reads false (.bool true)) else none) [4] [] ?_
                simp only [go_sem, reduceIte, reduceCtorEq, Nat.reduceAdd, Nat.reduceMul, Nat.reduceEqDiff, Nat.reduceLT, Nat.reduceLeDiff, Nat.reduceSub, Nat.reducePow, Nat.reduceBEq, Int.reduceToNat, List.reduceReplicate]
                repeat with_reducible refine cj ?_ ?_
                all_goals try first | (exact her1) | omega | exact ent (by kernel_rfl)
                refine hK22 _ _ _ ?_; clear hK22
                refine AW.ret ?_
                rw [← hQr]
                simp only [go_sem, reduceIte, reduceCtorEq, Nat.reduceAdd, Nat.reduceMul, Nat.reduceEqDiff, Nat.reduceLT, Nat.reduceLeDiff, Nat.reduceSub, Nat.reducePow, Nat.reduceBEq, Int.reduceToNat, List.reduceReplicate]
                exact Wk.refl _
              · intro hb
                try simp only [hB, decide_eq_true_eq, decide_eq_false_iff_not] at hb
                obtain ⟨b, hb1, hb2, rfl, hT4⟩ := hqC hb.1 (by omega)
                have eb : us.map rowV = tabR b := by rw [tabR_SB, ← hb1]
                rw [eb]
                have hcb := hcmp b hb2
                have htb2 := htb b hb2
                have ic2 := ic b hb2
                rw [decide_eq_true rfl] at ic2
                rw [← hT4] at hcb ic2
                refine AW.skip ?_
                refine hK20 _ _ _ ?_; clear hK20
                refine AW.seq fun K23 hK23 => ?_
                -- region 21
                refine AW.regionD mixed 0 (fun ii => if ii = 4 then some (.reads false (.rsl 1 (rowsR b))) else if ii = 5 then some (.reads false (.rsl 1 (rowsR T4))) else if ii = 6 then some (.reads false (.bool true)) else none) [4] [] ?_
                simp only [go_sem, reduceIte, reduceCtorEq, Nat.reduceAdd, Nat.reduceMul, Nat.reduceEqDiff, Nat.reduceLT, Nat.reduceLeDiff, Nat.reduceSub, Nat.reducePow, Nat.reduceBEq, Int.reduceToNat, List.reduceReplicate]
                repeat with_reducible refine cj ?_ ?_
                all_goals try first | (first | exact htb2 | exact hcb | exact ic2) | omega | exact chk (by kernel_rfl) | exact ent (by kernel_rfl)
                refine hK23 _ _ _ ?_; clear hK23
                refine AW.ret ?_
                rw [← hQr]
                simp only [go_sem, reduceIte, reduceCtorEq, Nat.reduceAdd, Nat.reduceMul, Nat.reduceEqDiff, Nat.reduceLT, Nat.reduceLeDiff, Nat.reduceSub, Nat.reducePow, Nat.reduceBEq, Int.reduceToNat, List.reduceReplicate]
                exact Wk.refl _
          · intro hb
            try simp only [hB, decide_eq_true_eq, decide_eq_false_iff_not] at hb
            obtain ⟨rfl, hT2⟩ := hqA hb
            rw [← hT2] at hrr ir
            refine AW.seq fun K24 hK24 => ?_
            -- region 17
            refine AW.regionD mixed 0 (fun ii => if ii = 3 then some (.reads false (.rsl 1 (rowsR T2))) else if ii = 4 then some (.reads false (.bool true)) else none) [2, 3, 11, 12, 13, 90] [2, 3, 11] ?_
            simp only [go_sem, reduceIte, reduceCtorEq, Nat.reduceAdd, Nat.reduceMul, Nat.reduceEqDiff, Nat.reduceLT, Nat.reduceLeDiff, Nat.reduceSub, Nat.reducePow, Nat.reduceBEq, Int.reduceToNat, List.reduceReplicate]
            repeat with_reducible refine cj ?_ ?_
            all_goals try first | (first | exact hrr | exact ir) | omega | exact chk (by kernel_rfl) | exact ent (by kernel_rfl)
            refine hK24 _ _ _ ?_; clear hK24
            -- cond 7
            refine AW.cond rfl (by simp only [go_sem, reduceIte, reduceCtorEq, Nat.reduceAdd, Nat.reduceMul, Nat.reduceEqDiff, Nat.reduceLT, Nat.reduceLeDiff, Nat.reduceSub, Nat.reducePow, Nat.reduceBEq, Int.reduceToNat, List.reduceReplicate]) ?_ ?_
            · intro hb
              try simp only [hB, decide_eq_true_eq, decide_eq_false_iff_not] at hb
              exfalso; simp at hb
            · intro hb
              try simp only [hB, decide_eq_true_eq, decide_eq_false_iff_not] at hb
              refine AW.skip ?_
              refine hK17 _ _ _ ?_; clear hK17
              refine AW.seq fun K25 hK25 => ?_
              refine AW.seq fun K26 hK26 => ?_
              -- region 19
              refine AW.regionK 0 (fun ii => if ii = 1 then some (.reads false (.bool (validR us))) else none) [3, 11, 12, 13, 102] [3, 11] ?_
              simp only [go_sem, reduceIte, reduceCtorEq, Nat.reduceAdd, Nat.reduceMul, Nat.reduceEqDiff, Nat.reduceLT, Nat.reduceLeDiff, Nat.reduceSub, Nat.reducePow, Nat.reduceBEq, Int.reduceToNat, List.reduceReplicate, hlt]
              repeat with_reducible refine cj ?_ ?_
              all_goals try first | (exact hv2) | (intros; (repeat' apply And.intro) <;> first | assumption | (exact hv2)) | omega | exact ent (by kernel_rfl) | (intro hgd; exact absurd hgd (by decide)) | rfl | (simp only [go_sem, reduceIte, reduceCtorEq, Nat.reduceAdd, Nat.reduceMul, Nat.reduceEqDiff, Nat.reduceLT, Nat.reduceLeDiff, Nat.reduceSub, Nat.reducePow, Nat.reduceBEq, Int.reduceToNat, List.reduceReplicate, hlt]; done) | (intro _hgd; simp_all [go_sem]; done)
              refine hK26 _ _ _ ?_; clear hK26
              -- cond 8
              refine AW.cond rfl (by simp only [go_sem, reduceIte, reduceCtorEq, Nat.reduceAdd, Nat.reduceMul, Nat.reduceEqDiff, Nat.reduceLT, Nat.reduceLeDiff, Nat.reduceSub, Nat.reducePow, Nat.reduceBEq, Int.reduceToNat, List.reduceReplicate]) ?_ ?_
              · intro hb
                try simp only [hB, decide_eq_true_eq, decide_eq_false_iff_not] at hb
                obtain ⟨rfl, rfl⟩ := hqD (by rcases hb with hb | hb; exact .inl hb; exact .inr (by omega))
                refine AW.seq fun K27 hK27 => ?_
                -- region 20
                refine AW.regionK 0 (fun ii => if ii = 2 then some (.reads false (.bool true)) else none) [4] [] ?_
                simp only [go_sem, reduceIte, reduceCtorEq, Nat.reduceAdd, Nat.reduceMul, Nat.reduceEqDiff, Nat.reduceLT, Nat.reduceLeDiff, Nat.reduceSub, Nat.reducePow, Nat.reduceBEq, Int.reduceToNat, List.reduceReplicate]
                repeat with_reducible refine cj ?_ ?_
                all_goals try first | (exact her1) | omega | exact ent (by kernel_rfl)
                refine hK27 _ _ _ ?_; clear hK27
                refine AW.ret ?_
                rw [← hQr]
                simp only [go_sem, reduceIte, reduceCtorEq, Nat.reduceAdd, Nat.reduceMul, Nat.reduceEqDiff, Nat.reduceLT, Nat.reduceLeDiff, Nat.reduceSub, Nat.reducePow, Nat.reduceBEq, Int.reduceToNat, List.reduceReplicate]
                exact Wk.refl _
              · intro hb
                try simp only [hB, decide_eq_true_eq, decide_eq_false_iff_not] at hb
                obtain ⟨b, hb1, hb2, rfl, hT4⟩ := hqC hb.1 (by omega)
                have eb : us.map rowV = tabR b := by rw [tabR_SB, ← hb1]
                rw [eb]
                have hcb := hcmp b hb2
                have htb2 := htb b hb2
                have ic2 := ic b hb2
                rw [decide_eq_true rfl] at ic2
                rw [← hT4] at hcb ic2
                refine AW.skip ?_
                refine hK25 _ _ _ ?_; clear hK25
                refine AW.seq fun K28 hK28 => ?_
                -- region 21
                refine AW.regionD mixed 0 (fun ii => if ii = 4 then some (.reads false (.rsl 1 (rowsR b))) else if ii = 5 then some (.reads false (.rsl 1 (rowsR T4))) else if ii = 6 then some (.reads false (.bool true)) else none) [4] [] ?_
                simp only [go_sem, reduceIte, reduceCtorEq, Nat.reduceAdd, Nat.reduceMul, Nat.reduceEqDiff, Nat.reduceLT, Nat.reduceLeDiff, Nat.reduceSub, Nat.reducePow, Nat.reduceBEq, Int.reduceToNat, List.reduceReplicate]
                repeat with_reducible refine cj ?_ ?_
                all_goals try first | (first | exact htb2 | exact hcb | exact ic2) | omega | exact chk (by kernel_rfl) | exact ent (by kernel_rfl)
                refine hK28 _ _ _ ?_; clear hK28
                refine AW.ret ?_
                rw [← hQr]
                simp only [go_sem, reduceIte, reduceCtorEq, Nat.reduceAdd, Nat.reduceMul, Nat.reduceEqDiff, Nat.reduceLT, Nat.reduceLeDiff, Nat.reduceSub, Nat.reducePow, Nat.reduceBEq, Int.reduceToNat, List.reduceReplicate]
                exact Wk.refl _
end Go.Proofs.R
/- The least topological order. -/
namespace Go.AM
theorem filter_lt {p q : Nat → Bool} {l : List Nat} (h : ∀ x ∈ l, p x = true → q x = true) (hx : ∃ x ∈ l, q x = true ∧ p x = false) : (l.filter p).length < (l.filter q).length := by
  induction l with
  | nil => obtain ⟨x, hx, _⟩ := hx; cases hx
  | cons a l ih =>
    have hle : (l.filter p).length ≤ (l.filter q).length := by
      have := List.Sublist.length_le (l.filter p |>.filter_sublist (p := q))
      have e : (l.filter p).filter q = l.filter p := by
        rw [List.filter_eq_self]
        intro x hx; exact h x (by simp [(List.mem_filter.1 hx).1]) (List.mem_filter.1 hx).2
      have e2 : (l.filter p).filter q = (l.filter q).filter p := by rw [List.filter_filter, List.filter_filter]; congr 1; funext x; exact Bool.and_comm _ _
      rw [← e, e2]; exact List.length_filter_le _ _
    obtain ⟨x, hx, h1, h2⟩ := hx
    rcases List.mem_cons.1 hx with rfl | hx
    · simp only [List.filter_cons, h1, h2, if_true, Bool.false_eq_true, if_false, List.length_cons]; omega
    · have ih := ih (fun y hy => h y (by simp [hy])) ⟨x, hx, h1, h2⟩
      have ha := h a (by simp)
      simp only [List.filter_cons]
      cases hp : p a
      · cases hq : q a
        · simpa using ih
        · simp only [Bool.false_eq_true, if_false, if_true, List.length_cons]; omega
      · rw [ha hp]; simp only [if_true, List.length_cons]; omega
def freeO (n : Nat) (t : List (List Bool)) (out : List Nat) (i : Nat) : Bool := !out.contains i && (List.range n).all fun k => !atT t k i || out.contains k
def nextO (n : Nat) (t : List (List Bool)) (out : List Nat) : Option Nat := (List.range n).find? (freeO n t out)
def ordO (n : Nat) (t : List (List Bool)) : Nat → List Nat → List Nat
  | 0, out => out
  | m + 1, out => match nextO n t out with
    | some i => ordO n t m (out ++ [i])
    | none => out
theorem freeO_iff {n : Nat} {t : List (List Bool)} {out : List Nat} {i : Nat} : freeO n t out i = true ↔ i ∉ out ∧ ∀ k, k < n → atT t k i = true → k ∈ out := by
  simp only [freeO, Bool.and_eq_true, Bool.not_eq_true', List.all_eq_true, List.mem_range, Bool.or_eq_true]
  constructor
  · rintro ⟨h1, h2⟩
    refine ⟨fun h => (by simp [h] at h1), fun k hk ha => ?_⟩
    rcases h2 k hk with h | h
    · rw [ha] at h; cases h
    · simpa using h
  · rintro ⟨h1, h2⟩
    refine ⟨by simpa using h1, fun k hk => ?_⟩
    cases ha : atT t k i with
    | false => exact .inl rfl
    | true => exact .inr (by simpa using h2 k hk ha)
theorem acyc_iff {n : Nat} {t : List (List Bool)} : acyc n t = true ↔ ∀ i, i < n → atT (warsh n t) i i = false := by
  unfold acyc; rw [List.all_eq_true]
  constructor
  · intro h i hi; have := h i (List.mem_range.2 hi); simpa using this
  · intro h i hi; rw [h i (List.mem_range.1 hi)]; rfl
theorem exists_free {n : Nat} {t : List (List Bool)} (hs : Sq n t) (ha : acyc n t = true) {out : List Nat} : ∀ (m i : Nat), i < n → i ∉ out → ((List.range n).filter fun k => atT (warsh n t) k i && !out.contains k).length ≤ m → ∃ j, j < n ∧ freeO n t out j = true := by
  have hac := acyc_iff.1 ha
  intro m
  induction m with
  | zero =>
    intro i hi ho hl
    refine ⟨i, hi, freeO_iff.2 ⟨ho, fun k hk h => ?_⟩⟩
    rcases Classical.em (k ∈ out) with h1 | h1
    · exact h1
    · exfalso
      have hm : k ∈ (List.range n).filter fun k => atT (warsh n t) k i && !out.contains k := by
        rw [List.mem_filter]; exact ⟨List.mem_range.2 hk, by simp [warsh_sub hs hk hi h, h1]⟩
      have := List.length_pos_of_mem hm
      omega
  | succ m ih =>
    intro i hi ho hl
    by_cases hf : freeO n t out i = true
    · exact ⟨i, hi, hf⟩
    · have : ∃ k, k < n ∧ atT t k i = true ∧ k ∉ out := by
        rcases Classical.em (∃ k, k < n ∧ atT t k i = true ∧ k ∉ out) with h | h
        · exact h
        · exact absurd (freeO_iff.2 ⟨ho, fun k hk h1 => by
            rcases Classical.em (k ∈ out) with h2 | h2
            · exact h2
            · exact absurd ⟨k, hk, h1, h2⟩ h⟩) hf
      obtain ⟨k, hk, h1, h2⟩ := this
      have hki := warsh_sub hs hk hi h1
      refine ih k hk h2 (Nat.le_of_lt_succ (Nat.lt_of_lt_of_le (filter_lt (fun x hx hp => ?_) ⟨k, List.mem_range.2 hk, ?_, ?_⟩) hl))
      · simp only [Bool.and_eq_true] at hp ⊢
        exact ⟨warsh_trans hs (List.mem_range.1 hx) hk hi hp.1 hki, hp.2⟩
      · simp [hki, h2]
      · rw [hac k hk]; rfl
structure OrdI (n : Nat) (t : List (List Bool)) (out : List Nat) : Prop where
  nd : out.Nodup
  rng : ∀ i ∈ out, i < n
  top : ∀ (q i k : Nat), out[q]? = some i → k < n → atT t k i = true → ∃ p : Nat, p < q ∧ out[p]? = some k
theorem OrdI.closed {n : Nat} {t : List (List Bool)} {out : List Nat} (h : OrdI n t out) {i k : Nat} (hi : i ∈ out) (hk : k < n) (ha : atT t k i = true) : k ∈ out := by
  obtain ⟨q, hq, rfl⟩ := List.mem_iff_getElem.1 hi
  obtain ⟨p, _, hp⟩ := h.top q _ k (List.getElem?_eq_getElem hq) hk ha
  exact List.mem_of_getElem? hp
theorem OrdI.snoc {n : Nat} {t : List (List Bool)} {out : List Nat} (h : OrdI n t out) {i : Nat} (hi : i < n) (hf : freeO n t out i = true) : OrdI n t (out ++ [i]) := by
  obtain ⟨h1, h2⟩ := freeO_iff.1 hf
  refine ⟨?_, fun j hj => ?_, fun q j k hq hk ha => ?_⟩
  · rw [List.nodup_append]
    exact ⟨h.nd, by simp, fun a ha b hb => by simp at hb; subst hb; rintro rfl; exact h1 ha⟩
  · rcases List.mem_append.1 hj with hj | hj
    · exact h.rng j hj
    · simp at hj; omega
  · by_cases hql : q < out.length
    · rw [List.getElem?_append_left hql] at hq
      obtain ⟨p, hp1, hp2⟩ := h.top q j k hq hk ha
      exact ⟨p, hp1, by rw [List.getElem?_append_left (by omega)]; exact hp2⟩
    · have hq2 := (List.getElem?_eq_some_iff.1 hq).1
      simp at hq2
      have : q = out.length := by omega
      subst this
      simp at hq; subst hq
      obtain ⟨p, hp, hpk⟩ := List.mem_iff_getElem.1 (h2 k hk ha)
      exact ⟨p, hp, by rw [List.getElem?_append_left hp, List.getElem?_eq_getElem hp, hpk]⟩
theorem nodup_nat : ∀ (n : Nat) (l : List Nat), l.Nodup → (∀ i ∈ l, i < n) → l.length ≤ n
  | 0, l, _, h => by
    cases l with
    | nil => simp
    | cons a l => have := h a (by simp); omega
  | n + 1, l, hn, h => by
    have ih := nodup_nat n (l.erase n) (hn.erase _) fun u hu => by
      have h1 := (List.Nodup.mem_erase_iff hn).1 hu
      have := h u h1.2
      have := h1.1
      omega
    have : l.length ≤ (l.erase n).length + 1 := by
      rw [List.length_erase]; split <;> omega
    omega
theorem sub_len : ∀ (n : Nat) (l : List Nat), (∀ i, i < n → i ∈ l) → n ≤ l.length
  | 0, _, _ => Nat.zero_le _
  | n + 1, l, h => by
    have hn := h n (by omega)
    have ih := sub_len n (l.erase n) fun i hi => (List.mem_erase_of_ne (by omega)).2 (h i (by omega))
    rw [List.length_erase_of_mem hn] at ih
    have := List.length_pos_of_mem hn
    omega
theorem missing {n : Nat} {l : List Nat} (hl : l.length < n) : ∃ i, i < n ∧ i ∉ l := by
  rcases Classical.em (∃ i, i < n ∧ i ∉ l) with h | h
  · exact h
  · exfalso
    have := sub_len n l fun i hi => by
      rcases Classical.em (i ∈ l) with h1 | h1
      · exact h1
      · exact absurd ⟨i, hi, h1⟩ h
    omega
theorem OrdI.next {n : Nat} {t : List (List Bool)} (hs : Sq n t) (ha : acyc n t = true) {out : List Nat} (hl : out.length < n) : ∃ i, nextO n t out = some i ∧ i < n ∧ freeO n t out i = true := by
  obtain ⟨i, hi, ho⟩ := missing hl
  obtain ⟨j, hj, hf⟩ := exists_free hs ha _ i hi ho (Nat.le_refl _)
  cases h : nextO n t out with
  | none => have := find_range_none.1 h j hj; rw [hf] at this; cases this
  | some i => obtain ⟨h1, h2, _⟩ := find_range_lt h; exact ⟨i, rfl, h1, h2⟩
theorem ordO_ok {n : Nat} {t : List (List Bool)} (hs : Sq n t) (ha : acyc n t = true) : ∀ (m : Nat) (out : List Nat), OrdI n t out → out.length + m = n → OrdI n t (ordO n t m out) ∧ (ordO n t m out).length = n
  | 0, out, h, hl => ⟨h, hl⟩
  | m + 1, out, h, hl => by
    obtain ⟨i, h1, h2, h3⟩ := OrdI.next hs ha (out := out) (by omega)
    unfold ordO; rw [h1]
    exact ordO_ok hs ha m _ (h.snoc h2 h3) (by simp; omega)
theorem OrdI.nil (n : Nat) (t : List (List Bool)) : OrdI n t [] := ⟨by simp, by simp, by simp⟩
/-- How many stand before a node. -/
def cntO (n : Nat) (t : List (List Bool)) (out : List Nat) (j : Nat) : Nat := ((List.range n).filter fun k => atT t k j && !out.contains k).length
def befO (n : Nat) (t : List (List Bool)) (out : List Nat) : List Int := (List.range n).map fun j => if out.contains j then -1 else (cntO n t out j : Int)
theorem befO_len (n : Nat) (t : List (List Bool)) (out : List Nat) : (befO n t out).length = n := by simp [befO]
theorem befO_get {n : Nat} {t : List (List Bool)} {out : List Nat} {j : Nat} (hj : j < n) : (befO n t out).getD j 0 = if out.contains j then -1 else (cntO n t out j : Int) := by
  simp [befO, List.getD_eq_getElem?_getD, hj]
theorem cntO_zero {n : Nat} {t : List (List Bool)} {out : List Nat} {j : Nat} : cntO n t out j = 0 ↔ ∀ k, k < n → atT t k j = true → k ∈ out := by
  unfold cntO
  rw [List.length_eq_zero_iff, List.filter_eq_nil_iff]
  constructor
  · intro h k hk ha
    have := h k (List.mem_range.2 hk)
    rw [ha] at this; simpa using this
  · intro h k hk
    have := h k (List.mem_range.1 hk)
    cases ha : atT t k j with
    | false => simp
    | true => simp [this ha]
theorem befO_free {n : Nat} {t : List (List Bool)} {out : List Nat} {j : Nat} (hj : j < n) : decide (0 = (befO n t out).getD j 0) = freeO n t out j := by
  refine bool_ext ?_
  rw [decide_eq_true_eq, freeO_iff, befO_get hj]
  by_cases h : j ∈ out
  · simp [h]
  · have hc : out.contains j = false := by simpa using h
    rw [hc]
    simp only [Bool.false_eq_true, if_false]
    constructor
    · intro h2; exact ⟨h, cntO_zero.1 (by omega)⟩
    · intro h2; rw [cntO_zero.2 h2.2]; rfl
theorem befO_ix {n : Nat} {t : List (List Bool)} {out : List Nat} {i : Nat} (h : nextO n t out = some i) : ixf (fun y => decide (0 = y)) (befO n t out) = i := by
  obtain ⟨h1, h2, h3⟩ := find_range_lt h
  have hg : ∀ j, j < n → (befO n t out)[j]? = some ((befO n t out).getD j 0) := fun j hj => by
    rw [List.getElem?_eq_getElem (by rw [befO_len]; exact hj)]; simp [List.getD_eq_getElem?_getD, befO_len, hj]
  refine ixf_at (hg i h1) (by rw [befO_free h1]; exact h2) ?_
  rw [List.any_eq_false]
  intro y hy
  rw [List.mem_take_iff_getElem] at hy
  obtain ⟨k, hk, rfl⟩ := hy
  have hkn : k < n := by omega
  have := h3 k (by omega)
  rw [← befO_free hkn] at this
  simp only [List.getD_eq_getElem?_getD, befO_len, hkn, List.getElem?_eq_getElem, Option.getD_some] at this
  simpa using this
def decJ (t : List (List Bool)) (i j : Nat) (B : List Int) : List Int := if atT t i j then B.set j (B.getD j 0 - 1) else B
theorem decJ_eq (t : List (List Bool)) (i j : Nat) (B : List Int) : decJ t i j B = if atT t i j then B.set j (B.getD j 0 - 1) else B := rfl
theorem decJ_len (t : List (List Bool)) (i : Nat) (B : List Int) : ∀ m, (iter (decJ t i) m B).length = B.length
  | 0 => rfl
  | m + 1 => by rw [iter_succ, decJ_eq]; split <;> simp [decJ_len t i B m]
theorem decJ_get (t : List (List Bool)) (i : Nat) (B : List Int) (j : Nat) : ∀ m, m ≤ B.length → (iter (decJ t i) m B).getD j 0 = if j < m ∧ atT t i j = true then B.getD j 0 - 1 else B.getD j 0
  | 0, _ => by rw [if_neg (by omega)]; rfl
  | m + 1, hm => by
    have ih := decJ_get t i B j m (by omega)
    have hl := decJ_len t i B m
    have ihm := decJ_get t i B m m (by omega)
    rw [if_neg (by omega)] at ihm
    rw [iter_succ, decJ_eq]
    by_cases h : atT t i m = true
    · rw [if_pos h]
      by_cases e : m = j
      · subst e; rw [Go.AM.getD_set_eq (by omega), ihm, if_pos ⟨by omega, h⟩]
      · rw [Go.AM.getD_set_ne e, ih]
        have : (j < m + 1 ∧ atT t i j = true) ↔ (j < m ∧ atT t i j = true) := ⟨fun x => ⟨by omega, x.2⟩, fun x => ⟨by omega, x.2⟩⟩
        simp only [this]
    · rw [if_neg h, ih]
      have : (j < m + 1 ∧ atT t i j = true) ↔ (j < m ∧ atT t i j = true) := ⟨fun x => ⟨by
        by_cases e : j = m
        · subst e; exact absurd x.2 h
        · omega, x.2⟩, fun x => ⟨by omega, x.2⟩⟩
      simp only [this]
theorem filter_one {p q : Nat → Bool} {a : Nat} : ∀ {l : List Nat}, l.Nodup → a ∈ l → p a = true → q a = false → (∀ x ∈ l, x ≠ a → q x = p x) → (l.filter q).length + 1 = (l.filter p).length
  | [], _, ha, _, _, _ => by cases ha
  | b :: l, hn, ha, hp, hq, h => by
    rw [List.nodup_cons] at hn
    by_cases e : b = a
    · subst e
      have : l.filter q = l.filter p := List.filter_congr fun x hx => h x (by simp [hx]) (fun e => hn.1 (e ▸ hx))
      simp [List.filter_cons, hp, hq, this]
    · have hal : a ∈ l := (List.mem_cons.1 ha).resolve_left fun x => e x.symm
      have ih := filter_one hn.2 hal hp hq fun x hx => h x (by simp [hx])
      have hb := h b (by simp) e
      simp only [List.filter_cons, hb]
      split <;> first | omega | (simp only [List.length_cons]; omega)
theorem befO_step {n : Nat} {t : List (List Bool)} (hs : Sq n t) (hac : acyc n t = true) {out : List Nat} (ho : OrdI n t out) {i : Nat} (hi : i < n) (hf : freeO n t out i = true) : iter (decJ t i) n ((befO n t out).set i (-1)) = befO n t (out ++ [i]) := by
  have hbl := befO_len n t out
  obtain ⟨h1, h2⟩ := freeO_iff.1 hf
  refine getD_ext (by rw [decJ_len]; simp [befO_len]) fun j hj => ?_
  rw [decJ_len, List.length_set, hbl] at hj
  rw [decJ_get t i _ j n (by simp [hbl]), befO_get hj]
  have hii : atT t i i = false := by
    cases h : atT t i i with
    | false => rfl
    | true => have := acyc_iff.1 hac i hi; rw [warsh_sub hs hi hi h] at this; cases this
  by_cases hji : j = i
  · subst hji
    rw [hii, if_neg (by simp), Go.AM.getD_set_eq (by omega)]
    simp
  · rw [Go.AM.getD_set_ne (Ne.symm hji), befO_get hj]
    have hc : (out ++ [i]).contains j = out.contains j := by simp [hji]
    rw [hc]
    by_cases hjo : j ∈ out
    · have hno : ¬ (j < n ∧ atT t i j = true) := fun h => h1 (ho.closed hjo hi h.2)
      have hcj : out.contains j = true := by simpa using hjo
      rw [if_neg hno, hcj]
      simp
    · have hcj : out.contains j = false := by simpa using hjo
      rw [hcj]
      simp only [Bool.false_eq_true, if_false]
      by_cases hat : atT t i j = true
      · rw [if_pos ⟨hj, hat⟩]
        have : cntO n t (out ++ [i]) j + 1 = cntO n t out j := by
          unfold cntO
          refine filter_one (a := i) List.nodup_range (List.mem_range.2 hi) ?_ ?_ fun x hx hxi => ?_
          · simp [hat, h1]
          · simp
          · simp [hxi]
        omega
      · rw [if_neg (by rintro ⟨_, x⟩; exact hat x)]
        have : cntO n t (out ++ [i]) j = cntO n t out j := by
          unfold cntO
          congr 1
          refine List.filter_congr fun x hx => ?_
          by_cases e : x = i
          · subst e; simp [hat]
          · simp [e]
        rw [this]
/-- The first counts. -/
def incP (B : List Int) (p : Int × Int) : List Int := B.set p.2.toNat (B.getD p.2.toNat 0 + 1)
def incPs (B : List Int) (L : List (Int × Int)) : List Int := L.foldl incP B
theorem incPs_len (L : List (Int × Int)) : ∀ B : List Int, (incPs B L).length = B.length := by
  induction L with
  | nil => intro B; rfl
  | cons p L ih => intro B; show (incPs (incP B p) L).length = _; rw [ih]; simp [incP]
theorem incPs_take {B : List Int} {L : List (Int × Int)} {j : Nat} {p : Int × Int} (h : L[j]? = some p) : incPs B (L.take (j + 1)) = incP (incPs B (L.take j)) p := by
  obtain ⟨hj, rfl⟩ := List.getElem?_eq_some_iff.1 h
  unfold incPs
  rw [List.take_succ_eq_append_getElem hj, List.foldl_append]; rfl
theorem incPs_get (L : List (Int × Int)) (j : Nat) : ∀ B : List Int, j < B.length → (incPs B L).getD j 0 = B.getD j 0 + ((L.filter fun p => p.2.toNat == j).length : Int) := by
  induction L with
  | nil => intro B _; simp [incPs]
  | cons p L ih =>
    intro B hj
    show (incPs (incP B p) L).getD j 0 = _
    rw [ih _ (by simp [incP]; exact hj)]
    unfold incP
    rw [List.filter_cons]
    by_cases e : p.2.toNat = j
    · rw [e, Go.AM.getD_set_eq hj]; simp; omega
    · rw [Go.AM.getD_set_ne e]; simp [e]
theorem incPs_bnd (L : List (Int × Int)) (j : Nat) (B : List Int) (h : ∀ i, B.getD i 0 = 0) : 0 ≤ (incPs B L).getD j 0 ∧ (incPs B L).getD j 0 ≤ L.length := by
  by_cases hj : j < B.length
  · rw [incPs_get L j B hj, h]
    have := List.length_filter_le (fun p : Int × Int => p.2.toNat == j) L
    omega
  · rw [Go.AM.getD_out (by rw [incPs_len]; omega)]; omega
theorem rowPairs_cnt (t : List (List Bool)) (i j : Nat) : ∀ m, ((rowPairs t i m).filter fun p => p.2.toNat == j).length = if j < m ∧ atT t i j = true then 1 else 0
  | 0 => by simp [rowPairs]
  | m + 1 => by
    have ih := rowPairs_cnt t i j m
    rw [rowPairs_succ]
    by_cases h : atT t i m = true
    · rw [if_pos h, List.filter_append, List.length_append, ih]
      by_cases e : m = j
      · subst e; simp [h]
      · have : (j < m + 1 ∧ atT t i j = true) ↔ (j < m ∧ atT t i j = true) := ⟨fun x => ⟨by omega, x.2⟩, fun x => ⟨by omega, x.2⟩⟩
        simp [e, this]
    · rw [if_neg h, ih]
      have : (j < m + 1 ∧ atT t i j = true) ↔ (j < m ∧ atT t i j = true) := ⟨fun x => ⟨by
        by_cases e : j = m
        · subst e; exact absurd x.2 h
        · omega, x.2⟩, fun x => ⟨by omega, x.2⟩⟩
      simp only [this]
theorem pairsAt_cnt {n : Nat} (t : List (List Bool)) {j : Nat} (hj : j < n) : ∀ i, ((pairsAt t n i).filter fun p => p.2.toNat == j).length = ((List.range i).filter fun k => atT t k j).length
  | 0 => by simp [pairsAt]
  | i + 1 => by
    rw [pairsAt_succ, List.filter_append, List.length_append, pairsAt_cnt t hj i, rowPairs_cnt, List.range_succ, List.filter_append, List.length_append]
    by_cases h : atT t i j = true
    · simp [h, hj]
    · simp [h]
theorem befO_nil (n : Nat) (t : List (List Bool)) : incPs (List.replicate n 0) (pairsT t n) = befO n t [] := by
  refine getD_ext (by rw [incPs_len, befO_len]; simp) fun j hj => ?_
  rw [incPs_len, List.length_replicate] at hj
  rw [incPs_get _ j _ (by simpa using hj), befO_get hj]
  have e0 : (List.replicate n (0 : Int)).getD j 0 = 0 := by rw [List.getD_eq_getElem?_getD, List.getElem?_replicate]; split <;> rfl
  have hc : cntO n t [] j = ((List.range n).filter fun k => atT t k j).length := by unfold cntO; congr 1; refine List.filter_congr fun x _ => by simp
  have := pairsAt_cnt t hj n
  rw [e0]; unfold pairsT; rw [this, ← hc]; simp
end Go.AM
namespace Go.Proofs.R
open Go.AM Go
set_option maxRecDepth 100000
set_option maxHeartbeats 2000000
theorem index_r (l : List Int) (x : Int) (hl : l.length ≤ 9223372036854775807) : Reads Try.prog 55 false [.rsl 1 (ints l), .int .i64 x] (.int .i64 (ixf (fun y => decide (x = y)) l)) := by
  refine Reads.body (rs := [.tmp 4]) Try.func55 rfl Try.ntmps55 rfl (by simp) ?_
  generalize hQr : retQ _ _ _ = Qr
  refine AW.seq fun K1 hK1 => ?_
  -- region 0
  refine AW.regionK 0 (fun _ => none) [0, 1] [] ?_
  simp only [go_sem, reduceIte, reduceCtorEq, Nat.reduceAdd, Nat.reduceMul, Nat.reduceEqDiff, Nat.reduceLT, Nat.reduceLeDiff, Nat.reduceSub, Nat.reducePow, Nat.reduceBEq, Int.reduceToNat, List.reduceReplicate]
  repeat with_reducible refine cj ?_ ?_
  all_goals try first | omega
  refine hK1 _ _ _ ?_; clear hK1
  refine AW.seq fun K2 hK2 => ?_
  refine AW.seq fun K3 hK3 => ?_
  -- region 1
  refine AW.regionK 0 (fun _ => none) [0, 1, 7, 8] [] ?_
  simp only [go_sem, reduceIte, reduceCtorEq, Nat.reduceAdd, Nat.reduceMul, Nat.reduceEqDiff, Nat.reduceLT, Nat.reduceLeDiff, Nat.reduceSub, Nat.reducePow, Nat.reduceBEq, Int.reduceToNat, List.reduceReplicate]
  repeat with_reducible refine cj ?_ ?_
  all_goals try first | omega
  refine hK3 _ _ _ ?_; clear hK3
  refine AW.block ?_
  -- loop 1
  refine AW.loopE (fun mm ee ss kk => ∃ (j : Nat), l.length - j = mm ∧ ee = [(0, .rsl 1 (ints l)), (1, .int .i64 x), (7, .int .i64 l.length), (8, .int .i64 (j : Nat))] ∧ ss = [] ∧ (j ≤ l.length ∧ (l.take j).any (fun y => decide (x = y)) = false)) ?_ ?_
  · refine ⟨_, 0, rfl, ?henv, ?hstore, ?hst⟩
    case henv =>
      repeat' (first | rfl | refine env_cons ?_ ?_ | refine st_cons ?_ ?_ ?_ ?_ | refine int_eq ?_ | refine bool_eq ?_ | refine rsl_eq ?_ | refine osl_eq ?_ | refine sl_eq ?_ ?_ ?_ | refine ptr_eq ?_ ?_ ?_ | refine agg_eq ?_ | refine es_cons ?_ ?_ | refine row_cons ?_ ?_)
      all_goals (first | (simp; done) | omega | (simp; omega))
    case hstore =>
      repeat' (first | rfl | refine env_cons ?_ ?_ | refine st_cons ?_ ?_ ?_ ?_ | refine int_eq ?_ | refine bool_eq ?_ | refine rsl_eq ?_ | refine osl_eq ?_ | refine sl_eq ?_ ?_ ?_ | refine ptr_eq ?_ ?_ ?_ | refine agg_eq ?_ | refine es_cons ?_ ?_ | refine row_cons ?_ ?_)
      all_goals (first | (simp; done) | omega | (simp; omega))
    case hst =>
      first | trivial | omega | (simp; done) | (simp; omega)
  rintro mm ee ss kk ⟨j, rfl, rfl, rfl, hI⟩
  generalize hQl1 : thenQ _ _ = Ql1
  obtain ⟨hj, hall⟩ := hI
  refine AW.seq fun K4 hK4 => ?_
  -- region 2
  refine AW.regionK 0 (fun _ => none) [0, 1, 7, 8, 9] [] ?_
  simp only [go_sem, reduceIte, reduceCtorEq, Nat.reduceAdd, Nat.reduceMul, Nat.reduceEqDiff, Nat.reduceLT, Nat.reduceLeDiff, Nat.reduceSub, Nat.reducePow, Nat.reduceBEq, Int.reduceToNat, List.reduceReplicate]
  repeat with_reducible refine cj ?_ ?_
  all_goals try first | omega
  refine hK4 _ _ _ ?_; clear hK4
  refine AW.seq fun K5 hK5 => ?_
  -- cond 1
  refine AW.cond rfl (by simp only [go_sem, reduceIte, reduceCtorEq, Nat.reduceAdd, Nat.reduceMul, Nat.reduceEqDiff, Nat.reduceLT, Nat.reduceLeDiff, Nat.reduceSub, Nat.reducePow, Nat.reduceBEq, Int.reduceToNat, List.reduceReplicate]) ?_ ?_
  · intro hb
    try simp only [hB, decide_eq_true_eq, decide_eq_false_iff_not] at hb
    obtain ⟨y, hy⟩ := getI (l := l) (j := j) (by omega)
    have hgy := ints_get hy
    have hats := any_take_succ (p := fun y => decide (x = y)) hy
    refine AW.skip ?_
    refine hK5 _ _ _ ?_; clear hK5
    refine AW.seq fun K6 hK6 => ?_
    refine AW.block ?_
    refine AW.seq fun K7 hK7 => ?_
    -- region 3
    refine AW.regionK 0 (fun _ => none) [0, 1, 5, 7, 8] [] ?_
    simp only [go_sem, reduceIte, reduceCtorEq, Nat.reduceAdd, Nat.reduceMul, Nat.reduceEqDiff, Nat.reduceLT, Nat.reduceLeDiff, Nat.reduceSub, Nat.reducePow, Nat.reduceBEq, Int.reduceToNat, List.reduceReplicate]
    repeat with_reducible refine cj ?_ ?_
    all_goals try first | omega
    refine hK7 _ _ _ ?_; clear hK7
    refine AW.seq fun K8 hK8 => ?_
    -- region 4
    refine AW.regionK 0 (fun _ => none) [0, 1, 5, 7, 8, 16] [] ?_
    simp only [go_sem, reduceIte, reduceCtorEq, Nat.reduceAdd, Nat.reduceMul, Nat.reduceEqDiff, Nat.reduceLT, Nat.reduceLeDiff, Nat.reduceSub, Nat.reducePow, Nat.reduceBEq, Int.reduceToNat, List.reduceReplicate, hgy]
    repeat with_reducible refine cj ?_ ?_
    all_goals try first | omega
    refine hK8 _ _ _ ?_; clear hK8
    -- cond 2
    refine AW.cond rfl (by simp only [go_sem, reduceIte, reduceCtorEq, Nat.reduceAdd, Nat.reduceMul, Nat.reduceEqDiff, Nat.reduceLT, Nat.reduceLeDiff, Nat.reduceSub, Nat.reducePow, Nat.reduceBEq, Int.reduceToNat, List.reduceReplicate]) ?_ ?_
    · intro hb
      try simp only [hB, decide_eq_true_eq, decide_eq_false_iff_not] at hb
      refine AW.seq fun K9 hK9 => ?_
      -- region 5
      refine AW.regionK 0 (fun _ => none) [4] [] ?_
      simp only [go_sem, reduceIte, reduceCtorEq, Nat.reduceAdd, Nat.reduceMul, Nat.reduceEqDiff, Nat.reduceLT, Nat.reduceLeDiff, Nat.reduceSub, Nat.reducePow, Nat.reduceBEq, Int.reduceToNat, List.reduceReplicate]
      repeat with_reducible refine cj ?_ ?_
      all_goals try first | omega
      refine hK9 _ _ _ ?_; clear hK9
      refine AW.ret ?_
      rw [← hQl1]
      rw [← hQr]
      simp only [go_sem, reduceIte, reduceCtorEq, Nat.reduceAdd, Nat.reduceMul, Nat.reduceEqDiff, Nat.reduceLT, Nat.reduceLeDiff, Nat.reduceSub, Nat.reducePow, Nat.reduceBEq, Int.reduceToNat, List.reduceReplicate]
      exact Wk.of_eq (by rw [ixf_at hy (decide_eq_true hb) hall])
    · intro hb
      try simp only [hB, decide_eq_true_eq, decide_eq_false_iff_not] at hb
      refine AW.skip ?_
      refine hK6 _ _ _ ?_; clear hK6
      -- region 6
      refine AW.regionK 0 (fun _ => none) [0, 1, 7, 8] [] ?_
      simp only [go_sem, reduceIte, reduceCtorEq, Nat.reduceAdd, Nat.reduceMul, Nat.reduceEqDiff, Nat.reduceLT, Nat.reduceLeDiff, Nat.reduceSub, Nat.reducePow, Nat.reduceBEq, Int.reduceToNat, List.reduceReplicate]
      repeat with_reducible refine cj ?_ ?_
      all_goals try first | omega
      rw [← hQl1]
      change Exists _
      refine ⟨_, ?hm, j + 1, rfl, ?henv, ?hstore, ?hst⟩
      case henv =>
        repeat' (first | rfl | refine env_cons ?_ ?_ | refine st_cons ?_ ?_ ?_ ?_ | refine int_eq ?_ | refine bool_eq ?_ | refine rsl_eq ?_ | refine osl_eq ?_ | refine sl_eq ?_ ?_ ?_ | refine ptr_eq ?_ ?_ ?_ | refine agg_eq ?_ | refine es_cons ?_ ?_ | refine row_cons ?_ ?_)
        all_goals (first | (simp; done) | omega | (simp; omega))
      case hstore =>
        repeat' (first | rfl | refine env_cons ?_ ?_ | refine st_cons ?_ ?_ ?_ ?_ | refine int_eq ?_ | refine bool_eq ?_ | refine rsl_eq ?_ | refine osl_eq ?_ | refine sl_eq ?_ ?_ ?_ | refine ptr_eq ?_ ?_ ?_ | refine agg_eq ?_ | refine es_cons ?_ ?_ | refine row_cons ?_ ?_)
        all_goals (first | (simp; done) | omega | (simp; omega))
      case hst =>
        exact ⟨by omega, by rw [hats, hall, decide_eq_false hb]; rfl⟩
      case hm => omega
  · intro hb
    try simp only [hB, decide_eq_true_eq, decide_eq_false_iff_not] at hb
    refine AW.keep [] [] ?_
    try simp only [go_sem, reduceIte, reduceCtorEq, Nat.reduceAdd, Nat.reduceMul, Nat.reduceEqDiff, Nat.reduceLT, Nat.reduceLeDiff, Nat.reduceSub, Nat.reducePow, Nat.reduceBEq, Int.reduceToNat, List.reduceReplicate]
    refine AW.exit ?_
    rw [← hQl1]
    refine hK2 _ _ _ ?_; clear hK2
    refine AW.seq fun K10 hK10 => ?_
    -- region 7
    refine AW.regionK 0 (fun _ => none) [4] [] ?_
    simp only [go_sem, reduceIte, reduceCtorEq, Nat.reduceAdd, Nat.reduceMul, Nat.reduceEqDiff, Nat.reduceLT, Nat.reduceLeDiff, Nat.reduceSub, Nat.reducePow, Nat.reduceBEq, Int.reduceToNat, List.reduceReplicate]
    repeat with_reducible refine cj ?_ ?_
    all_goals try first | omega
    refine hK10 _ _ _ ?_; clear hK10
    refine AW.ret ?_
    rw [← hQr]
    simp only [go_sem, reduceIte, reduceCtorEq, Nat.reduceAdd, Nat.reduceMul, Nat.reduceEqDiff, Nat.reduceLT, Nat.reduceLeDiff, Nat.reduceSub, Nat.reducePow, Nat.reduceBEq, Int.reduceToNat, List.reduceReplicate]
    exact Wk.of_eq (by rw [List.take_of_length_le (by omega)] at hall; rw [ixf_none hall])
def nats (l : List Nat) : List Int := l.map fun (i : Nat) => (i : Int)
theorem nats_app (l : List Nat) (i : Nat) : nats l ++ [(i : Int)] = nats (l ++ [i]) := by simp [nats]
theorem nats_len (l : List Nat) : (nats l).length = l.length := by simp [nats]
theorem order_e (rs : List USet) (hl : longR rs) (hv : validR rs = false) : Reads Try.prog 30 false [relV rs] (.tup [.rsl 1 [], .int .i64 1]) := by
  have h := rvalid_r rs hl.1 hl.2
  rw [hv] at h
  unfold relV at *
  refine Reads.body (rs := [.tmp 2, .tmp 3]) Try.func30 rfl Try.ntmps30 rfl (by simp) ?_
  generalize hQr : retQ _ _ _ = Qr
  refine AW.seq fun K1 hK1 => ?_
  -- region 0
  refine AW.regionK 0 (fun _ => none) [1] [1] ?_
  simp only [go_sem, reduceIte, reduceCtorEq, Nat.reduceAdd, Nat.reduceMul, Nat.reduceEqDiff, Nat.reduceLT, Nat.reduceLeDiff, Nat.reduceSub, Nat.reducePow, Nat.reduceBEq, Int.reduceToNat, List.reduceReplicate]
  repeat with_reducible refine cj ?_ ?_
  all_goals try first | omega
  refine hK1 _ _ _ ?_; clear hK1
  refine AW.seq fun K2 hK2 => ?_
  refine AW.block ?_
  refine AW.seq fun K3 hK3 => ?_
  -- region 1
  refine AW.regionK 0 (fun ii => if ii = 1 then some (.reads false (.bool false)) else none) [1, 10] [1] ?_
  simp only [go_sem, reduceIte, reduceCtorEq, Nat.reduceAdd, Nat.reduceMul, Nat.reduceEqDiff, Nat.reduceLT, Nat.reduceLeDiff, Nat.reduceSub, Nat.reducePow, Nat.reduceBEq, Int.reduceToNat, List.reduceReplicate]
  repeat with_reducible refine cj ?_ ?_
  all_goals try first | (exact h) | omega | exact ent (by kernel_rfl)
  refine hK3 _ _ _ ?_; clear hK3
  -- cond 1
  refine AW.cond rfl (by simp only [go_sem, reduceIte, reduceCtorEq, Nat.reduceAdd, Nat.reduceMul, Nat.reduceEqDiff, Nat.reduceLT, Nat.reduceLeDiff, Nat.reduceSub, Nat.reducePow, Nat.reduceBEq, Int.reduceToNat, List.reduceReplicate]) ?_ ?_
  · intro hb
    try simp only [hB, decide_eq_true_eq, decide_eq_false_iff_not] at hb
    refine AW.seq fun K4 hK4 => ?_
    -- region 2
    refine AW.regionK 0 (fun _ => none) [2, 3] [] ?_
    simp only [go_sem, reduceIte, reduceCtorEq, Nat.reduceAdd, Nat.reduceMul, Nat.reduceEqDiff, Nat.reduceLT, Nat.reduceLeDiff, Nat.reduceSub, Nat.reducePow, Nat.reduceBEq, Int.reduceToNat, List.reduceReplicate]
    repeat with_reducible refine cj ?_ ?_
    all_goals try first | omega
    refine hK4 _ _ _ ?_; clear hK4
    refine AW.ret ?_
    rw [← hQr]
    simp only [go_sem, reduceIte, reduceCtorEq, Nat.reduceAdd, Nat.reduceMul, Nat.reduceEqDiff, Nat.reduceLT, Nat.reduceLeDiff, Nat.reduceSub, Nat.reducePow, Nat.reduceBEq, Int.reduceToNat, List.reduceReplicate]
    exact Wk.tup2 (Wk.nil 1) (Wk.refl _)
  · intro hb
    try simp only [hB, decide_eq_true_eq, decide_eq_false_iff_not] at hb
    simp at hb
theorem order_c (n : Nat) (t : List (List Bool)) (hs : Sq n t) (hn : n ≤ 512) (hac : acyc n t = false) : Reads Try.prog 30 false [relB t] (.tup [.rsl 1 [], .int .i64 ((10 : Nat) : Int)]) := by
  have h := valid_g n t hs hn
  have h2 := acyclic_g n t hs hn
  rw [hac] at h2
  unfold relB at *
  refine Reads.body (rs := [.tmp 2, .tmp 3]) Try.func30 rfl Try.ntmps30 rfl (by simp) ?_
  generalize hQr : retQ _ _ _ = Qr
  refine AW.seq fun K1 hK1 => ?_
  -- region 0
  refine AW.regionK 0 (fun _ => none) [1] [1] ?_
  simp only [go_sem, reduceIte, reduceCtorEq, Nat.reduceAdd, Nat.reduceMul, Nat.reduceEqDiff, Nat.reduceLT, Nat.reduceLeDiff, Nat.reduceSub, Nat.reducePow, Nat.reduceBEq, Int.reduceToNat, List.reduceReplicate]
  repeat with_reducible refine cj ?_ ?_
  all_goals try first | omega
  refine hK1 _ _ _ ?_; clear hK1
  refine AW.seq fun K2 hK2 => ?_
  refine AW.block ?_
  refine AW.seq fun K3 hK3 => ?_
  -- region 1
  refine AW.regionK 0 (fun ii => if ii = 1 then some (.reads false (.bool true)) else none) [1, 10] [1] ?_
  simp only [go_sem, reduceIte, reduceCtorEq, Nat.reduceAdd, Nat.reduceMul, Nat.reduceEqDiff, Nat.reduceLT, Nat.reduceLeDiff, Nat.reduceSub, Nat.reducePow, Nat.reduceBEq, Int.reduceToNat, List.reduceReplicate]
  repeat with_reducible refine cj ?_ ?_
  all_goals try first | (exact h) | omega | exact ent (by kernel_rfl)
  refine hK3 _ _ _ ?_; clear hK3
  -- cond 1
  refine AW.cond rfl (by simp only [go_sem, reduceIte, reduceCtorEq, Nat.reduceAdd, Nat.reduceMul, Nat.reduceEqDiff, Nat.reduceLT, Nat.reduceLeDiff, Nat.reduceSub, Nat.reducePow, Nat.reduceBEq, Int.reduceToNat, List.reduceReplicate]) ?_ ?_
  · intro hb
    try simp only [hB, decide_eq_true_eq, decide_eq_false_iff_not] at hb
    simp at hb
  · intro hb
    try simp only [hB, decide_eq_true_eq, decide_eq_false_iff_not] at hb
    refine AW.seq fun K4 hK4 => ?_
    -- region 3
    refine AW.regionK 0 (fun ii => if ii = 1 then some (.reads false (.bool false)) else none) [1, 14] [1] ?_
    simp only [go_sem, reduceIte, reduceCtorEq, Nat.reduceAdd, Nat.reduceMul, Nat.reduceEqDiff, Nat.reduceLT, Nat.reduceLeDiff, Nat.reduceSub, Nat.reducePow, Nat.reduceBEq, Int.reduceToNat, List.reduceReplicate]
    repeat with_reducible refine cj ?_ ?_
    all_goals try first | (exact h2) | omega | exact ent (by kernel_rfl)
    refine hK4 _ _ _ ?_; clear hK4
    -- cond 2
    refine AW.cond rfl (by simp only [go_sem, reduceIte, reduceCtorEq, Nat.reduceAdd, Nat.reduceMul, Nat.reduceEqDiff, Nat.reduceLT, Nat.reduceLeDiff, Nat.reduceSub, Nat.reducePow, Nat.reduceBEq, Int.reduceToNat, List.reduceReplicate]) ?_ ?_
    · intro hb
      try simp only [hB, decide_eq_true_eq, decide_eq_false_iff_not] at hb
      refine AW.seq fun K5 hK5 => ?_
      -- region 4
      refine AW.regionK 0 (fun _ => none) [2, 3] [] ?_
      simp only [go_sem, reduceIte, reduceCtorEq, Nat.reduceAdd, Nat.reduceMul, Nat.reduceEqDiff, Nat.reduceLT, Nat.reduceLeDiff, Nat.reduceSub, Nat.reducePow, Nat.reduceBEq, Int.reduceToNat, List.reduceReplicate]
      repeat with_reducible refine cj ?_ ?_
      all_goals try first | omega
      refine hK5 _ _ _ ?_; clear hK5
      refine AW.ret ?_
      rw [← hQr]
      simp only [go_sem, reduceIte, reduceCtorEq, Nat.reduceAdd, Nat.reduceMul, Nat.reduceEqDiff, Nat.reduceLT, Nat.reduceLeDiff, Nat.reduceSub, Nat.reducePow, Nat.reduceBEq, Int.reduceToNat, List.reduceReplicate]
      exact Wk.tup2 (Wk.nil 1) (Wk.refl _)
    · intro hb
      try simp only [hB, decide_eq_true_eq, decide_eq_false_iff_not] at hb
      simp at hb
theorem order_g (n : Nat) (t : List (List Bool)) (hs : Sq n t) (hn : n ≤ 512) (hac : acyc n t = true) : Reads Try.prog 30 false [relB t] (.tup [.rsl 1 (ints (nats (ordO n t n []))), .int .i64 ((0 : Nat) : Int)]) := by
  have h := valid_g n t hs hn
  have h2 := acyclic_g n t hs hn
  rw [hac] at h2
  have ha := all_r n t hs hn
  have hlt : (tabR t).length = n := by rw [tabR_len, hs.len]
  have hpl : (pairsT t n).length ≤ 262144 := Nat.le_trans (pairsAt_le t n n) (Nat.le_trans (Nat.mul_le_mul hn hn) (by decide))
  have hin := pairsT_in (t := t) (n := n)
  have hz : ∀ i, (List.replicate n (0 : Int)).getD i 0 = 0 := fun i => by rw [List.getD_eq_getElem?_getD, List.getElem?_replicate]; split <;> rfl
  have hbf := befO_nil n t
  have hib := fun L j => incPs_bnd L j _ hz
  have hil := fun L => incPs_len L (List.replicate n (0 : Int))
  have hh2 := fun i j hi hj => rhas_r n t hs hn i j hi hj
  unfold relB at *
  generalize hP : pairsT t n = P at *
  refine Reads.body (rs := [.tmp 2, .tmp 3]) Try.func30 rfl Try.ntmps30 rfl (by simp) ?_
  generalize hQr : retQ _ _ _ = Qr
  refine AW.seq fun K1 hK1 => ?_
  -- region 0
  refine AW.regionK 0 (fun _ => none) [1] [1] ?_
  simp only [go_sem, reduceIte, reduceCtorEq, Nat.reduceAdd, Nat.reduceMul, Nat.reduceEqDiff, Nat.reduceLT, Nat.reduceLeDiff, Nat.reduceSub, Nat.reducePow, Nat.reduceBEq, Int.reduceToNat, List.reduceReplicate, hlt]
  repeat with_reducible refine cj ?_ ?_
  all_goals try first | omega
  refine hK1 _ _ _ ?_; clear hK1
  refine AW.seq fun K2 hK2 => ?_
  refine AW.block ?_
  refine AW.seq fun K3 hK3 => ?_
  -- region 1
  refine AW.regionK 0 (fun ii => if ii = 1 then some (.reads false (.bool true)) else none) [1, 10] [1] ?_
  simp only [go_sem, reduceIte, reduceCtorEq, Nat.reduceAdd, Nat.reduceMul, Nat.reduceEqDiff, Nat.reduceLT, Nat.reduceLeDiff, Nat.reduceSub, Nat.reducePow, Nat.reduceBEq, Int.reduceToNat, List.reduceReplicate, hlt]
  repeat with_reducible refine cj ?_ ?_
  all_goals try first | (exact h) | omega | exact ent (by kernel_rfl)
  refine hK3 _ _ _ ?_; clear hK3
  -- cond 1
  refine AW.cond rfl (by simp only [go_sem, reduceIte, reduceCtorEq, Nat.reduceAdd, Nat.reduceMul, Nat.reduceEqDiff, Nat.reduceLT, Nat.reduceLeDiff, Nat.reduceSub, Nat.reducePow, Nat.reduceBEq, Int.reduceToNat, List.reduceReplicate]) ?_ ?_
  · intro hb
    try simp only [hB, decide_eq_true_eq, decide_eq_false_iff_not] at hb
    simp at hb
  · intro hb
    try simp only [hB, decide_eq_true_eq, decide_eq_false_iff_not] at hb
    refine AW.seq fun K4 hK4 => ?_
    -- region 3
    refine AW.regionK 0 (fun ii => if ii = 1 then some (.reads false (.bool true)) else none) [1, 14] [1] ?_
    simp only [go_sem, reduceIte, reduceCtorEq, Nat.reduceAdd, Nat.reduceMul, Nat.reduceEqDiff, Nat.reduceLT, Nat.reduceLeDiff, Nat.reduceSub, Nat.reducePow, Nat.reduceBEq, Int.reduceToNat, List.reduceReplicate, hlt]
    repeat with_reducible refine cj ?_ ?_
    all_goals try first | (exact h2) | omega | exact ent (by kernel_rfl)
    refine hK4 _ _ _ ?_; clear hK4
    -- cond 2
    refine AW.cond rfl (by simp only [go_sem, reduceIte, reduceCtorEq, Nat.reduceAdd, Nat.reduceMul, Nat.reduceEqDiff, Nat.reduceLT, Nat.reduceLeDiff, Nat.reduceSub, Nat.reducePow, Nat.reduceBEq, Int.reduceToNat, List.reduceReplicate]) ?_ ?_
    · intro hb
      try simp only [hB, decide_eq_true_eq, decide_eq_false_iff_not] at hb
      simp at hb
    · intro hb
      try simp only [hB, decide_eq_true_eq, decide_eq_false_iff_not] at hb
      refine AW.skip ?_
      refine hK2 _ _ _ ?_; clear hK2
      refine AW.seq fun K5 hK5 => ?_
      -- region 5
      refine AW.regionK 0 (fun _ => none) [1, 4] [1, 21] ?_
      simp only [go_sem, reduceIte, reduceCtorEq, Nat.reduceAdd, Nat.reduceMul, Nat.reduceEqDiff, Nat.reduceLT, Nat.reduceLeDiff, Nat.reduceSub, Nat.reducePow, Nat.reduceBEq, Int.reduceToNat, List.reduceReplicate, hlt]
      repeat with_reducible refine cj ?_ ?_
      all_goals try first | omega
      refine hK5 _ _ _ ?_; clear hK5
      refine AW.seq fun K6 hK6 => ?_
      refine AW.seq fun K7 hK7 => ?_
      -- region 6
      refine AW.regionK 0 (fun ii => if ii = 1 then some (.reads true (.rsl 2 (P.map pairV))) else none) [1, 4, 23, 24, 25] [1, 21] ?_
      simp only [go_sem, reduceIte, reduceCtorEq, Nat.reduceAdd, Nat.reduceMul, Nat.reduceEqDiff, Nat.reduceLT, Nat.reduceLeDiff, Nat.reduceSub, Nat.reducePow, Nat.reduceBEq, Int.reduceToNat, List.reduceReplicate, hlt]
      repeat with_reducible refine cj ?_ ?_
      all_goals try first | (exact ha) | omega | exact ent (by kernel_rfl)
      refine hK7 _ _ _ ?_; clear hK7
      refine AW.block ?_
      -- loop 1
      refine AW.loopE (fun mm ee ss kk => ∃ (j g1 v1 g v : Nat), P.length - j = mm ∧ ee = [(1, .ptr ⟨1, g1, none⟩ 0 0), (4, .sl ⟨21, g, none⟩ 0 n none), (23, .rsl 2 (P.map pairV)), (24, .int .i64 P.length), (25, .int .i64 (j : Nat))] ∧ ss = [(1, some ⟨g1, v1, 1, [[.rsl 2 (tabR t)]]⟩), (21, some ⟨g, v, 1, ints (incPs (List.replicate n 0) (P.take j))⟩)] ∧ (j ≤ P.length)) ?_ ?_
      · refine ⟨_, 0, ?_, ?_, ?_, ?_, rfl, ?henv, ?hstore, ?hst⟩
        case henv =>
          repeat' (first | rfl | refine env_cons ?_ ?_ | refine st_cons ?_ ?_ ?_ ?_ | refine int_eq ?_ | refine bool_eq ?_ | refine rsl_eq ?_ | refine osl_eq ?_ | refine sl_eq ?_ ?_ ?_ | refine ptr_eq ?_ ?_ ?_ | refine agg_eq ?_ | refine es_cons ?_ ?_ | refine row_cons ?_ ?_)
          all_goals (first | (simp; done) | omega | (simp; omega))
        case hstore =>
          repeat' (first | rfl | refine env_cons ?_ ?_ | refine st_cons ?_ ?_ ?_ ?_ | refine int_eq ?_ | refine bool_eq ?_ | refine rsl_eq ?_ | refine osl_eq ?_ | refine sl_eq ?_ ?_ ?_ | refine ptr_eq ?_ ?_ ?_ | refine agg_eq ?_ | refine es_cons ?_ ?_ | refine row_cons ?_ ?_)
          all_goals (simp [ints, incPs])
        case hst =>
          first | trivial | omega | (simp; done) | (simp; omega)
      rintro mm ee ss kk ⟨j, g1, v1, g, v, rfl, rfl, rfl, hI⟩
      generalize hQl1 : thenQ _ _ = Ql1
      refine AW.seq fun K8 hK8 => ?_
      -- region 7
      refine AW.regionK 0 (fun _ => none) [1, 4, 23, 24, 25, 26] [1, 21] ?_
      simp only [go_sem, reduceIte, reduceCtorEq, Nat.reduceAdd, Nat.reduceMul, Nat.reduceEqDiff, Nat.reduceLT, Nat.reduceLeDiff, Nat.reduceSub, Nat.reducePow, Nat.reduceBEq, Int.reduceToNat, List.reduceReplicate, hlt]
      repeat with_reducible refine cj ?_ ?_
      all_goals try first | omega
      refine hK8 _ _ _ ?_; clear hK8
      refine AW.seq fun K9 hK9 => ?_
      -- cond 3
      refine AW.cond rfl (by simp only [go_sem, reduceIte, reduceCtorEq, Nat.reduceAdd, Nat.reduceMul, Nat.reduceEqDiff, Nat.reduceLT, Nat.reduceLeDiff, Nat.reduceSub, Nat.reducePow, Nat.reduceBEq, Int.reduceToNat, List.reduceReplicate]) ?_ ?_
      · intro hb
        try simp only [hB, decide_eq_true_eq, decide_eq_false_iff_not] at hb
        obtain ⟨p, hp⟩ := getI (l := P) (j := j) (by omega)
        have hgp := getV (f := pairV) hp
        have hip := hin p (List.mem_of_getElem? hp)
        have hpt := incPs_take (B := List.replicate n (0 : Int)) hp
        unfold inP at hip
        have hl2 := hil (P.take j)
        have hb2 := hib (P.take j) p.2.toNat
        rw [List.length_replicate] at hl2
        rw [List.length_take] at hb2
        generalize incPs (List.replicate n 0) (P.take j) = B at *
        have hgB := ints_getD (l := B) (i := p.2.toNat) (by omega)
        unfold incP at hpt
        refine AW.skip ?_
        refine hK9 _ _ _ ?_; clear hK9
        refine AW.seq fun K10 hK10 => ?_
        refine AW.block ?_
        refine AW.seq fun K11 hK11 => ?_
        -- region 8
        refine AW.regionK 0 (fun _ => none) [1, 4, 6, 23, 24, 25] [1, 6, 21] ?_
        simp only [go_sem, reduceIte, reduceCtorEq, Nat.reduceAdd, Nat.reduceMul, Nat.reduceEqDiff, Nat.reduceLT, Nat.reduceLeDiff, Nat.reduceSub, Nat.reducePow, Nat.reduceBEq, Int.reduceToNat, List.reduceReplicate, hlt, hgp, pairV]
        repeat with_reducible refine cj ?_ ?_
        all_goals try first | omega
        refine hK11 _ _ _ ?_; clear hK11
        -- region 9
        refine AW.regionK 0 (fun _ => none) [1, 4, 23, 24, 25] [1, 21] ?_
        simp only [go_sem, reduceIte, reduceCtorEq, Nat.reduceAdd, Nat.reduceMul, Nat.reduceEqDiff, Nat.reduceLT, Nat.reduceLeDiff, Nat.reduceSub, Nat.reducePow, Nat.reduceBEq, Int.reduceToNat, List.reduceReplicate, hlt, pairV, hgB, hl2]
        repeat with_reducible refine cj ?_ ?_
        all_goals try first | omega
        refine hK10 _ _ _ ?_; clear hK10
        -- region 10
        refine AW.regionK 0 (fun _ => none) [1, 4, 23, 24, 25] [1, 21] ?_
        simp only [go_sem, reduceIte, reduceCtorEq, Nat.reduceAdd, Nat.reduceMul, Nat.reduceEqDiff, Nat.reduceLT, Nat.reduceLeDiff, Nat.reduceSub, Nat.reducePow, Nat.reduceBEq, Int.reduceToNat, List.reduceReplicate, hlt]
        repeat with_reducible refine cj ?_ ?_
        all_goals try first | omega
        rw [← hQl1]
        change Exists _
        refine ⟨_, ?hm, j + 1, ?_, ?_, ?_, ?_, rfl, ?henv, ?hstore, ?hst⟩
        case henv =>
          repeat' (first | rfl | refine env_cons ?_ ?_ | refine st_cons ?_ ?_ ?_ ?_ | refine int_eq ?_ | refine bool_eq ?_ | refine rsl_eq ?_ | refine osl_eq ?_ | refine sl_eq ?_ ?_ ?_ | refine ptr_eq ?_ ?_ ?_ | refine agg_eq ?_ | refine es_cons ?_ ?_ | refine row_cons ?_ ?_)
          all_goals (first | (simp; done) | omega | (simp; omega))
        case hstore =>
          repeat' (first | rfl | refine env_cons ?_ ?_ | refine st_cons ?_ ?_ ?_ ?_ | refine int_eq ?_ | refine bool_eq ?_ | refine rsl_eq ?_ | refine osl_eq ?_ | refine sl_eq ?_ ?_ ?_ | refine ptr_eq ?_ ?_ ?_ | refine agg_eq ?_ | refine es_cons ?_ ?_ | refine row_cons ?_ ?_)
          all_goals (rw [hpt])
        case hst =>
          first | trivial | omega | (simp; done) | (simp; omega)
        case hm => omega
      · intro hb
        try simp only [hB, decide_eq_true_eq, decide_eq_false_iff_not] at hb
        have hj : j = P.length := by omega
        subst hj
        rw [List.take_of_length_le (Nat.le_refl _), hbf]
        refine AW.exit ?_
        rw [← hQl1]
        refine hK6 _ _ _ ?_; clear hK6
        refine AW.seq fun K12 hK12 => ?_
        -- region 11
        refine AW.regionK 0 (fun _ => none) [1, 4, 7] [1, 21] ?_
        simp only [go_sem, reduceIte, reduceCtorEq, Nat.reduceAdd, Nat.reduceMul, Nat.reduceEqDiff, Nat.reduceLT, Nat.reduceLeDiff, Nat.reduceSub, Nat.reducePow, Nat.reduceBEq, Int.reduceToNat, List.reduceReplicate, hlt]
        repeat with_reducible refine cj ?_ ?_
        all_goals try first | omega
        refine hK12 _ _ _ ?_; clear hK12
        refine AW.seq fun K13 hK13 => ?_
        refine AW.seq fun K14 hK14 => ?_
        -- region 12
        refine AW.regionK 0 (fun _ => none) [1, 4, 7, 39, 40] [1, 21] ?_
        simp only [go_sem, reduceIte, reduceCtorEq, Nat.reduceAdd, Nat.reduceMul, Nat.reduceEqDiff, Nat.reduceLT, Nat.reduceLeDiff, Nat.reduceSub, Nat.reducePow, Nat.reduceBEq, Int.reduceToNat, List.reduceReplicate, hlt]
        repeat with_reducible refine cj ?_ ?_
        all_goals try first | omega
        refine hK14 _ _ _ ?_; clear hK14
        refine AW.block ?_
        refine AW.nilOwn 7 200 1 (by simp only [go_sem, reduceIte, Nat.reduceEqDiff]) ?_
        refine AW.keep [1, 4, 7, 39, 40] [1, 21, 200] ?_
        simp only [go_sem, reduceIte, Nat.reduceEqDiff]
        -- loop 2
        refine AW.loopE (fun mm ee ss kk => ∃ (m g1 v1 g v g7 v7 : Nat) (out : List Nat), m + 1 = mm ∧ ee = [(1, .ptr ⟨1, g1, none⟩ 0 0), (4, .sl ⟨21, g, none⟩ 0 n none), (7, .sl ⟨200, g7, none⟩ 0 out.length none), (39, .int .i64 n), (40, .int .i64 out.length)] ∧ ss = [(1, some ⟨g1, v1, 1, [[.rsl 2 (tabR t)]]⟩), (21, some ⟨g, v, 1, ints (befO n t out)⟩), (200, some ⟨g7, v7, 1, ints (nats out)⟩)] ∧ (OrdI n t out ∧ out.length + m = n ∧ ordO n t m out = ordO n t n [])) ?_ ?_
        · refine ⟨_, n, ?_, ?_, ?_, ?_, ?_, ?_, [], rfl, ?henv, ?hstore, ?hst⟩
          case henv =>
            repeat' (first | rfl | refine env_cons ?_ ?_ | refine st_cons ?_ ?_ ?_ ?_ | refine int_eq ?_ | refine bool_eq ?_ | refine rsl_eq ?_ | refine osl_eq ?_ | refine sl_eq ?_ ?_ ?_ | refine ptr_eq ?_ ?_ ?_ | refine agg_eq ?_ | refine es_cons ?_ ?_ | refine row_cons ?_ ?_)
            all_goals (first | (simp; done) | omega | (simp; omega))
          case hstore =>
            repeat' (first | rfl | refine env_cons ?_ ?_ | refine st_cons ?_ ?_ ?_ ?_ | refine int_eq ?_ | refine bool_eq ?_ | refine rsl_eq ?_ | refine osl_eq ?_ | refine sl_eq ?_ ?_ ?_ | refine ptr_eq ?_ ?_ ?_ | refine agg_eq ?_ | refine es_cons ?_ ?_ | refine row_cons ?_ ?_)
            all_goals (first | (simp; done) | omega | (simp; omega))
          case hst =>
            exact ⟨OrdI.nil n t, by simp, rfl⟩
        rintro mm ee ss kk ⟨m, g1, v1, g, v, g7, v7, out, rfl, rfl, rfl, hI⟩
        generalize hQl2 : thenQ _ _ = Ql2
        obtain ⟨hoi, hom, hoo⟩ := hI
        refine AW.seq fun K15 hK15 => ?_
        -- region 13
        refine AW.regionK 0 (fun _ => none) [1, 4, 7, 39, 40, 41] [1, 21, 200] ?_
        simp only [go_sem, reduceIte, reduceCtorEq, Nat.reduceAdd, Nat.reduceMul, Nat.reduceEqDiff, Nat.reduceLT, Nat.reduceLeDiff, Nat.reduceSub, Nat.reducePow, Nat.reduceBEq, Int.reduceToNat, List.reduceReplicate, hlt]
        repeat with_reducible refine cj ?_ ?_
        all_goals try first | omega
        refine hK15 _ _ _ ?_; clear hK15
        refine AW.seq fun K16 hK16 => ?_
        -- cond 4
        refine AW.cond rfl (by simp only [go_sem, reduceIte, reduceCtorEq, Nat.reduceAdd, Nat.reduceMul, Nat.reduceEqDiff, Nat.reduceLT, Nat.reduceLeDiff, Nat.reduceSub, Nat.reducePow, Nat.reduceBEq, Int.reduceToNat, List.reduceReplicate]) ?_ ?_
        · intro hb
          try simp only [hB, decide_eq_true_eq, decide_eq_false_iff_not] at hb
          obtain ⟨m, rfl⟩ : ∃ m', m = m' + 1 := ⟨m - 1, by omega⟩
          obtain ⟨i, hi1, hi2, hi3⟩ := OrdI.next hs hac (out := out) (by omega)
          have hix := befO_ix hi1
          have hbl := befO_len n t out
          have hidx := index_r (befO n t out) 0 (by omega)
          rw [hix] at hidx
          have hst := befO_step hs hac hoi hi2 hi3
          have hsn := hoi.snoc hi2 hi3
          have hoo2 : ordO n t m (out ++ [i]) = ordO n t n [] := by rw [← hoo]; show _ = ordO n t (m + 1) out; unfold ordO; rw [hi1]; cases m <;> rfl
          have hbr : ∀ j, j < n → -1 ≤ (befO n t out).getD j 0 ∧ (befO n t out).getD j 0 ≤ n := fun j hj => by
            rw [befO_get hj]
            have : cntO n t out j ≤ n := by unfold cntO; have := List.length_filter_le (fun k => atT t k j && !out.contains k) (List.range n); simp at this ⊢; exact this
            split <;> omega
          generalize befO n t out = B at *
          have htb : (ints B).take n = ints B := List.take_of_length_le (by rw [ints_len]; omega)
          have hto : (ints (nats out)).take out.length = ints (nats out) := List.take_of_length_le (by rw [ints_len, nats_len]; exact Nat.le_refl _)
          have hbl2 : (B.set i (-1)).length = n := by simp [hbl]
          have hdl := decJ_len t i (B.set i (-1))
          have hdg := fun j => decJ_get t i (B.set i (-1)) j
          have hbr2 : ∀ j, j < n → -1 ≤ (B.set i (-1)).getD j 0 ∧ (B.set i (-1)).getD j 0 ≤ n := fun j hj => by
            by_cases e : i = j
            · subst e; rw [Go.AM.getD_set_eq (by omega)]; omega
            · rw [Go.AM.getD_set_ne e]; exact hbr j hj
          refine AW.skip ?_
          refine hK16 _ _ _ ?_; clear hK16
          refine AW.seq fun K17 hK17 => ?_
          refine AW.block ?_
          refine AW.seq fun K18 hK18 => ?_
          -- region 14
          refine AW.regionK 0 (fun ii => if ii = 1 then some (.reads true (.int .i64 (i : Nat))) else none) [1, 4, 7, 8, 39, 40] [1, 21, 200] ?_
          simp only [go_sem, reduceIte, reduceCtorEq, Nat.reduceAdd, Nat.reduceMul, Nat.reduceEqDiff, Nat.reduceLT, Nat.reduceLeDiff, Nat.reduceSub, Nat.reducePow, Nat.reduceBEq, Int.reduceToNat, List.reduceReplicate, hlt, htb]
          repeat with_reducible refine cj ?_ ?_
          all_goals try first | (exact Reads.flat hidx rfl) | omega | exact ent (by kernel_rfl)
          refine hK18 _ _ _ ?_; clear hK18
          refine AW.seq fun K19 hK19 => ?_
          -- region 15
          refine AW.regionK 0 (fun _ => none) [1, 4, 7, 8, 39, 40] [1, 21, 200] ?_
          simp only [go_sem, reduceIte, reduceCtorEq, Nat.reduceAdd, Nat.reduceMul, Nat.reduceEqDiff, Nat.reduceLT, Nat.reduceLeDiff, Nat.reduceSub, Nat.reducePow, Nat.reduceBEq, Int.reduceToNat, List.reduceReplicate, hlt, hto, ints_app, nats_app, nats_len]
          repeat with_reducible refine cj ?_ ?_
          all_goals try first | omega | (simp [scP, scalar]; done) | exact scP_words _ | exact scP_ints _ | exact scP_bools _
          refine hK19 _ _ _ ?_; clear hK19
          refine AW.seq fun K20 hK20 => ?_
          -- region 16
          refine AW.regionK 0 (fun _ => none) [1, 4, 7, 8, 39, 40] [1, 21, 200] ?_
          simp only [go_sem, reduceIte, reduceCtorEq, Nat.reduceAdd, Nat.reduceMul, Nat.reduceEqDiff, Nat.reduceLT, Nat.reduceLeDiff, Nat.reduceSub, Nat.reducePow, Nat.reduceBEq, Int.reduceToNat, List.reduceReplicate, hlt, hbl]
          repeat with_reducible refine cj ?_ ?_
          all_goals try first | omega
          refine hK20 _ _ _ ?_; clear hK20
          refine AW.seq fun K21 hK21 => ?_
          -- region 17
          refine AW.regionK 0 (fun _ => none) [1, 4, 7, 8, 39, 40, 53, 54] [1, 21, 200] ?_
          simp only [go_sem, reduceIte, reduceCtorEq, Nat.reduceAdd, Nat.reduceMul, Nat.reduceEqDiff, Nat.reduceLT, Nat.reduceLeDiff, Nat.reduceSub, Nat.reducePow, Nat.reduceBEq, Int.reduceToNat, List.reduceReplicate, hlt]
          repeat with_reducible refine cj ?_ ?_
          all_goals try first | omega
          refine hK21 _ _ _ ?_; clear hK21
          refine AW.block ?_
          -- loop 3
          refine AW.loopE (fun mm ee ss kk => ∃ (j g1 v1 g v g7 v7 : Nat), n - j = mm ∧ ee = [(1, .ptr ⟨1, g1, none⟩ 0 0), (4, .sl ⟨21, g, none⟩ 0 n none), (7, .sl ⟨200, g7, none⟩ 0 (out ++ [i]).length none), (8, .int .i64 (i : Nat)), (39, .int .i64 n), (40, .int .i64 out.length), (53, .int .i64 n), (54, .int .i64 (j : Nat))] ∧ ss = [(1, some ⟨g1, v1, 1, [[.rsl 2 (tabR t)]]⟩), (21, some ⟨g, v, 1, ints (iter (decJ t i) j (B.set i (-1)))⟩), (200, some ⟨g7, v7, 1, ints (nats (out ++ [i]))⟩)] ∧ (j ≤ n)) ?_ ?_
          · refine ⟨_, 0, ?_, ?_, ?_, ?_, ?_, ?_, rfl, ?henv, ?hstore, ?hst⟩
            case henv =>
              repeat' (first | rfl | refine env_cons ?_ ?_ | refine st_cons ?_ ?_ ?_ ?_ | refine int_eq ?_ | refine bool_eq ?_ | refine rsl_eq ?_ | refine osl_eq ?_ | refine sl_eq ?_ ?_ ?_ | refine ptr_eq ?_ ?_ ?_ | refine agg_eq ?_ | refine es_cons ?_ ?_ | refine row_cons ?_ ?_)
              all_goals (first | (simp; done) | omega | (simp; omega))
            case hstore =>
              repeat' (first | rfl | refine env_cons ?_ ?_ | refine st_cons ?_ ?_ ?_ ?_ | refine int_eq ?_ | refine bool_eq ?_ | refine rsl_eq ?_ | refine osl_eq ?_ | refine sl_eq ?_ ?_ ?_ | refine ptr_eq ?_ ?_ ?_ | refine agg_eq ?_ | refine es_cons ?_ ?_ | refine row_cons ?_ ?_)
              all_goals (first | (simp; done) | omega | (simp; omega))
            case hst =>
              first | trivial | omega | (simp; done) | (simp; omega)
          rintro mm ee ss kk ⟨j, g1, v1, g, v, g7, v7, rfl, rfl, rfl, hI⟩
          generalize hQl3 : thenQ _ _ = Ql3
          refine AW.seq fun K22 hK22 => ?_
          -- region 18
          refine AW.regionK 0 (fun _ => none) [1, 4, 7, 8, 39, 40, 53, 54, 55] [1, 21, 200] ?_
          simp only [go_sem, reduceIte, reduceCtorEq, Nat.reduceAdd, Nat.reduceMul, Nat.reduceEqDiff, Nat.reduceLT, Nat.reduceLeDiff, Nat.reduceSub, Nat.reducePow, Nat.reduceBEq, Int.reduceToNat, List.reduceReplicate, hlt]
          repeat with_reducible refine cj ?_ ?_
          all_goals try first | omega
          refine hK22 _ _ _ ?_; clear hK22
          refine AW.seq fun K23 hK23 => ?_
          -- cond 5
          refine AW.cond rfl (by simp only [go_sem, reduceIte, reduceCtorEq, Nat.reduceAdd, Nat.reduceMul, Nat.reduceEqDiff, Nat.reduceLT, Nat.reduceLeDiff, Nat.reduceSub, Nat.reducePow, Nat.reduceBEq, Int.reduceToNat, List.reduceReplicate]) ?_ ?_
          · intro hb
            try simp only [hB, decide_eq_true_eq, decide_eq_false_iff_not] at hb
            have hhr := hh2 i j (by omega) (by omega)
            have hus : iter (decJ t i) (j + 1) (B.set i (-1)) = decJ t i j (iter (decJ t i) j (B.set i (-1))) := rfl
            rw [decJ_eq] at hus
            have hl2 := hdl j
            have hg2 := hdg j j (by omega)
            rw [if_neg (by omega)] at hg2
            have hb2 := hbr2 j (by omega)
            generalize iter (decJ t i) j (B.set i (-1)) = U at *
            have hgU := ints_getD (l := U) (i := j) (by omega)
            refine AW.skip ?_
            refine hK23 _ _ _ ?_; clear hK23
            refine AW.seq fun K24 hK24 => ?_
            refine AW.block ?_
            refine AW.seq fun K25 hK25 => ?_
            -- region 19
            refine AW.regionK 0 (fun _ => none) [1, 4, 7, 8, 9, 39, 40, 53, 54] [1, 21, 200] ?_
            simp only [go_sem, reduceIte, reduceCtorEq, Nat.reduceAdd, Nat.reduceMul, Nat.reduceEqDiff, Nat.reduceLT, Nat.reduceLeDiff, Nat.reduceSub, Nat.reducePow, Nat.reduceBEq, Int.reduceToNat, List.reduceReplicate, hlt]
            repeat with_reducible refine cj ?_ ?_
            all_goals try first | omega
            refine hK25 _ _ _ ?_; clear hK25
            refine AW.seq fun K26 hK26 => ?_
            -- region 20
            refine AW.regionK 0 (fun ii => if ii = 3 then some (.reads false (.bool (atT t i j))) else none) [1, 4, 7, 8, 9, 39, 40, 53, 54, 60] [1, 21, 200] ?_
            simp only [go_sem, reduceIte, reduceCtorEq, Nat.reduceAdd, Nat.reduceMul, Nat.reduceEqDiff, Nat.reduceLT, Nat.reduceLeDiff, Nat.reduceSub, Nat.reducePow, Nat.reduceBEq, Int.reduceToNat, List.reduceReplicate, hlt]
            repeat with_reducible refine cj ?_ ?_
            all_goals try first | (exact hhr) | omega | exact ent (by kernel_rfl)
            refine hK26 _ _ _ ?_; clear hK26
            -- cond 6
            refine AW.cond rfl (by simp only [go_sem, reduceIte, reduceCtorEq, Nat.reduceAdd, Nat.reduceMul, Nat.reduceEqDiff, Nat.reduceLT, Nat.reduceLeDiff, Nat.reduceSub, Nat.reducePow, Nat.reduceBEq, Int.reduceToNat, List.reduceReplicate]) ?_ ?_
            · intro hb
              try simp only [hB, decide_eq_true_eq, decide_eq_false_iff_not] at hb
              rw [if_pos hb] at hus
              -- region 21
              refine AW.regionK 0 (fun _ => none) [1, 4, 7, 8, 39, 40, 53, 54] [1, 21, 200] ?_
              simp only [go_sem, reduceIte, reduceCtorEq, Nat.reduceAdd, Nat.reduceMul, Nat.reduceEqDiff, Nat.reduceLT, Nat.reduceLeDiff, Nat.reduceSub, Nat.reducePow, Nat.reduceBEq, Int.reduceToNat, List.reduceReplicate, hlt, hgU]
              repeat with_reducible refine cj ?_ ?_
              all_goals try first | omega
              refine hK24 _ _ _ ?_; clear hK24
              -- region 22
              refine AW.regionK 0 (fun _ => none) [1, 4, 7, 8, 39, 40, 53, 54] [1, 21, 200] ?_
              simp only [go_sem, reduceIte, reduceCtorEq, Nat.reduceAdd, Nat.reduceMul, Nat.reduceEqDiff, Nat.reduceLT, Nat.reduceLeDiff, Nat.reduceSub, Nat.reducePow, Nat.reduceBEq, Int.reduceToNat, List.reduceReplicate, hlt]
              repeat with_reducible refine cj ?_ ?_
              all_goals try first | omega
              rw [← hQl3]
              change Exists _
              refine ⟨_, ?hm, j + 1, ?_, ?_, ?_, ?_, ?_, ?_, rfl, ?henv, ?hstore, ?hst⟩
              case henv =>
                repeat' (first | rfl | refine env_cons ?_ ?_ | refine st_cons ?_ ?_ ?_ ?_ | refine int_eq ?_ | refine bool_eq ?_ | refine rsl_eq ?_ | refine osl_eq ?_ | refine sl_eq ?_ ?_ ?_ | refine ptr_eq ?_ ?_ ?_ | refine agg_eq ?_ | refine es_cons ?_ ?_ | refine row_cons ?_ ?_)
                all_goals (first | (simp; done) | omega | (simp; omega))
              case hstore =>
                repeat' (first | rfl | refine env_cons ?_ ?_ | refine st_cons ?_ ?_ ?_ ?_ | refine int_eq ?_ | refine bool_eq ?_ | refine rsl_eq ?_ | refine osl_eq ?_ | refine sl_eq ?_ ?_ ?_ | refine ptr_eq ?_ ?_ ?_ | refine agg_eq ?_ | refine es_cons ?_ ?_ | refine row_cons ?_ ?_)
                all_goals (rw [hus])
              case hst =>
                first | trivial | omega | (simp; done) | (simp; omega)
              case hm => omega
            · intro hb
              try simp only [hB, decide_eq_true_eq, decide_eq_false_iff_not] at hb
              rw [if_neg (by rw [hb]; simp)] at hus
              refine AW.skip ?_
              refine hK24 _ _ _ ?_; clear hK24
              -- region 22
              refine AW.regionK 0 (fun _ => none) [1, 4, 7, 8, 39, 40, 53, 54] [1, 21, 200] ?_
              simp only [go_sem, reduceIte, reduceCtorEq, Nat.reduceAdd, Nat.reduceMul, Nat.reduceEqDiff, Nat.reduceLT, Nat.reduceLeDiff, Nat.reduceSub, Nat.reducePow, Nat.reduceBEq, Int.reduceToNat, List.reduceReplicate, hlt]
              repeat with_reducible refine cj ?_ ?_
              all_goals try first | omega
              rw [← hQl3]
              change Exists _
              refine ⟨_, ?hm, j + 1, ?_, ?_, ?_, ?_, ?_, ?_, rfl, ?henv, ?hstore, ?hst⟩
              case henv =>
                repeat' (first | rfl | refine env_cons ?_ ?_ | refine st_cons ?_ ?_ ?_ ?_ | refine int_eq ?_ | refine bool_eq ?_ | refine rsl_eq ?_ | refine osl_eq ?_ | refine sl_eq ?_ ?_ ?_ | refine ptr_eq ?_ ?_ ?_ | refine agg_eq ?_ | refine es_cons ?_ ?_ | refine row_cons ?_ ?_)
                all_goals (first | (simp; done) | omega | (simp; omega))
              case hstore =>
                repeat' (first | rfl | refine env_cons ?_ ?_ | refine st_cons ?_ ?_ ?_ ?_ | refine int_eq ?_ | refine bool_eq ?_ | refine rsl_eq ?_ | refine osl_eq ?_ | refine sl_eq ?_ ?_ ?_ | refine ptr_eq ?_ ?_ ?_ | refine agg_eq ?_ | refine es_cons ?_ ?_ | refine row_cons ?_ ?_)
                all_goals (rw [hus])
              case hst =>
                first | trivial | omega | (simp; done) | (simp; omega)
              case hm => omega
          · intro hb
            try simp only [hB, decide_eq_true_eq, decide_eq_false_iff_not] at hb
            have hj : j = n := by omega
            subst hj
            rw [hst]
            refine AW.exit ?_
            rw [← hQl3]
            refine hK17 _ _ _ ?_; clear hK17
            -- region 23
            refine AW.regionK 0 (fun _ => none) [1, 4, 7, 39, 40] [1, 21, 200] ?_
            simp only [go_sem, reduceIte, reduceCtorEq, Nat.reduceAdd, Nat.reduceMul, Nat.reduceEqDiff, Nat.reduceLT, Nat.reduceLeDiff, Nat.reduceSub, Nat.reducePow, Nat.reduceBEq, Int.reduceToNat, List.reduceReplicate, hlt]
            repeat with_reducible refine cj ?_ ?_
            all_goals try first | omega
            rw [← hQl2]
            change Exists _
            refine ⟨_, ?hm, m, ?_, ?_, ?_, ?_, ?_, ?_, out ++ [i], rfl, ?henv, ?hstore, ?hst⟩
            case henv =>
              repeat' (first | rfl | refine env_cons ?_ ?_ | refine st_cons ?_ ?_ ?_ ?_ | refine int_eq ?_ | refine bool_eq ?_ | refine rsl_eq ?_ | refine osl_eq ?_ | refine sl_eq ?_ ?_ ?_ | refine ptr_eq ?_ ?_ ?_ | refine agg_eq ?_ | refine es_cons ?_ ?_ | refine row_cons ?_ ?_)
              all_goals (first | (simp; done) | omega | (simp; omega))
            case hstore =>
              repeat' (first | rfl | refine env_cons ?_ ?_ | refine st_cons ?_ ?_ ?_ ?_ | refine int_eq ?_ | refine bool_eq ?_ | refine rsl_eq ?_ | refine osl_eq ?_ | refine sl_eq ?_ ?_ ?_ | refine ptr_eq ?_ ?_ ?_ | refine agg_eq ?_ | refine es_cons ?_ ?_ | refine row_cons ?_ ?_)
              all_goals (first | (simp; done) | omega | (simp; omega))
            case hst =>
              exact ⟨hsn, by simp; omega, hoo2⟩
            case hm => omega
        · intro hb
          try simp only [hB, decide_eq_true_eq, decide_eq_false_iff_not] at hb
          refine AW.exit ?_
          rw [← hQl2]
          refine hK13 _ _ _ ?_; clear hK13
          refine AW.seq fun K27 hK27 => ?_
          -- region 24
          refine AW.regionK 0 (fun _ => none) [2, 3] [200] ?_
          simp only [go_sem, reduceIte, reduceCtorEq, Nat.reduceAdd, Nat.reduceMul, Nat.reduceEqDiff, Nat.reduceLT, Nat.reduceLeDiff, Nat.reduceSub, Nat.reducePow, Nat.reduceBEq, Int.reduceToNat, List.reduceReplicate, hlt]
          repeat with_reducible refine cj ?_ ?_
          all_goals try first | omega
          refine hK27 _ _ _ ?_; clear hK27
          refine AW.ret ?_
          rw [← hQr]
          simp only [go_sem, reduceIte, reduceCtorEq, Nat.reduceAdd, Nat.reduceMul, Nat.reduceEqDiff, Nat.reduceLT, Nat.reduceLeDiff, Nat.reduceSub, Nat.reducePow, Nat.reduceBEq, Int.reduceToNat, List.reduceReplicate, hlt]
          have hm0 : m = 0 := by omega
          subst hm0
          have hor : out = ordO n t n [] := hoo
          rw [← hor, List.take_of_length_le (by rw [nats_len]; exact Nat.le_refl _)]
          exact Wk.refl _
end Go.Proofs.R
