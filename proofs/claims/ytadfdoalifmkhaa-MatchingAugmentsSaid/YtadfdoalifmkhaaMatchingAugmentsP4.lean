/- Lemmas and contracts, part 4: an abstract machine over the model, and the functions that the statement reaches. -/
import Derived.Test.YtadfdoalifmkhaaMatchingAugmentsP3
set_option linter.unusedVariables false
set_option linter.unusedSimpArgs false
namespace Go.Proofs.M
open Go.AM Go
set_option maxRecDepth 100000
set_option maxHeartbeats 2000000
def cntR (R : List Int) (j : Nat) : Nat := (R.take j).countP fun x => decide (0 ≤ x)
theorem cntR_succ {R : List Int} {j : Nat} (h : j < R.length) : cntR R (j + 1) = if 0 ≤ R.getD j 0 then cntR R j + 1 else cntR R j := by
  unfold cntR
  rw [List.take_add_one, List.getElem?_eq_getElem h, List.countP_append, List.getD_eq_getElem?_getD, List.getElem?_eq_getElem h]
  by_cases hc : 0 ≤ R[j] <;> simp [hc]
theorem cntR_le (R : List Int) (j : Nat) : cntR R j ≤ j := by
  unfold cntR
  have := List.countP_le_length (p := fun x : Int => decide (0 ≤ x)) (l := R.take j)
  rw [List.length_take] at this; omega
theorem size_r {n m : Nat} (hn : n ≤ 512) (hm : m ≤ 512) {E : List (Int × Int)} (hE : ∀ e ∈ E, edgeIn n m e = true) (hl : E.length ≤ 2000) :
    Reads Try.prog 19 false [.int .i64 n, .int .i64 m, .rsl 2 (E.map pairV)] (.int .i64 (cntR (maxLR (nbOf n E) n m n).2 m : Nat)) := by
  have hmt := mates_r hn hm hE hl
  have hok := maxLR_ok (n := n) (m := m) (nbOf_len n E) (nbOf_rng fun e he => by have := edgeIn_iff.1 (hE e he); omega) n (Nat.le_refl _)
  have hRm := hok.hR.1
  generalize (maxLR (nbOf n E) n m n).2 = R at *
  refine Reads.body (rs := [.tmp 6]) Try.func19 rfl Try.ntmps19 rfl (by simp) ?_
  generalize hQr : retQ _ _ _ = Qr
  refine AW.seq fun K1 hK1 => ?_
  -- region 0
  refine AW.regionK 0 (fun _ => none) [0, 1, 2] [] ?_
  simp only [go_sem, reduceIte, reduceCtorEq, Nat.reduceAdd, Nat.reduceMul, Nat.reduceEqDiff, Nat.reduceLT, Nat.reduceLeDiff, Nat.reduceSub, Nat.reducePow, Nat.reduceBEq, Int.reduceToNat, List.reduceReplicate, ints_len, hRm]
  repeat with_reducible refine cj ?_ ?_
  all_goals try first | omega
  refine hK1 _ _ _ ?_; clear hK1
  refine AW.seq fun K2 hK2 => ?_
  -- region 1
  refine AW.regionK 0 (fun ii => if ii = 3 then some (.reads true (.rsl 1 (ints R))) else none) [1, 7] [] ?_
  simp only [go_sem, reduceIte, reduceCtorEq, Nat.reduceAdd, Nat.reduceMul, Nat.reduceEqDiff, Nat.reduceLT, Nat.reduceLeDiff, Nat.reduceSub, Nat.reducePow, Nat.reduceBEq, Int.reduceToNat, List.reduceReplicate, ints_len, hRm]
  repeat with_reducible refine cj ?_ ?_
  all_goals try first | (exact hmt) | omega | exact ent (by kernel_rfl)
  refine hK2 _ _ _ ?_; clear hK2
  refine AW.seq fun K3 hK3 => ?_
  -- region 2
  refine AW.regionK 0 (fun _ => none) [1, 7, 8] [] ?_
  simp only [go_sem, reduceIte, reduceCtorEq, Nat.reduceAdd, Nat.reduceMul, Nat.reduceEqDiff, Nat.reduceLT, Nat.reduceLeDiff, Nat.reduceSub, Nat.reducePow, Nat.reduceBEq, Int.reduceToNat, List.reduceReplicate, ints_len, hRm]
  repeat with_reducible refine cj ?_ ?_
  all_goals try first | omega
  refine hK3 _ _ _ ?_; clear hK3
  refine AW.seq fun K4 hK4 => ?_
  refine AW.seq fun K5 hK5 => ?_
  -- region 3
  refine AW.regionK 0 (fun _ => none) [1, 7, 8, 9] [] ?_
  simp only [go_sem, reduceIte, reduceCtorEq, Nat.reduceAdd, Nat.reduceMul, Nat.reduceEqDiff, Nat.reduceLT, Nat.reduceLeDiff, Nat.reduceSub, Nat.reducePow, Nat.reduceBEq, Int.reduceToNat, List.reduceReplicate, ints_len, hRm]
  repeat with_reducible refine cj ?_ ?_
  all_goals try first | omega
  refine hK5 _ _ _ ?_; clear hK5
  refine AW.block ?_
  -- loop 1
  refine AW.loopE (fun mm ee ss kk => ∃ (j : Nat), m - j = mm ∧ ee = [(1, .int .i64 m), (7, .rsl 1 (ints R)), (8, .int .i64 (cntR R j : Nat)), (9, .int .i64 (j : Nat))] ∧ ss = [] ∧ (j ≤ m)) ?_ ?_
  · refine ⟨_, 0, rfl, ?henv, ?hstore, ?hst⟩
    case henv =>
      repeat' (first | rfl | refine env_cons ?_ ?_ | refine st_cons ?_ ?_ ?_ ?_ | refine int_eq ?_ | refine bool_eq ?_ | refine rsl_eq ?_ | refine osl_eq ?_ | refine sl_eq ?_ ?_ ?_ | refine ptr_eq ?_ ?_ ?_ | refine agg_eq ?_ | refine es_cons ?_ ?_ | refine row_cons ?_ ?_)
      all_goals (first | (simp; done) | omega | (simp; omega))
    case hstore =>
      repeat' (first | rfl | refine env_cons ?_ ?_ | refine st_cons ?_ ?_ ?_ ?_ | refine int_eq ?_ | refine bool_eq ?_ | refine rsl_eq ?_ | refine osl_eq ?_ | refine sl_eq ?_ ?_ ?_ | refine ptr_eq ?_ ?_ ?_ | refine agg_eq ?_ | refine es_cons ?_ ?_ | refine row_cons ?_ ?_)
      all_goals (first | (simp; done) | omega | (simp; omega))
    case hst =>
      first | trivial | omega | (simp; done) | (simp; omega)
  rintro mm ee ss kk ⟨j, rfl, rfl, rfl, hI⟩
  generalize hQl1 : thenQ _ _ = Ql1
  refine AW.seq fun K6 hK6 => ?_
  refine AW.seq fun K7 hK7 => ?_
  -- region 4
  refine AW.regionK 0 (fun _ => none) [1, 7, 8, 9, 16] [] ?_
  simp only [go_sem, reduceIte, reduceCtorEq, Nat.reduceAdd, Nat.reduceMul, Nat.reduceEqDiff, Nat.reduceLT, Nat.reduceLeDiff, Nat.reduceSub, Nat.reducePow, Nat.reduceBEq, Int.reduceToNat, List.reduceReplicate, ints_len, hRm]
  repeat with_reducible refine cj ?_ ?_
  all_goals try first | omega
  refine hK7 _ _ _ ?_; clear hK7
  -- cond 1
  refine AW.cond rfl (by simp only [go_sem, reduceIte, reduceCtorEq, Nat.reduceAdd, Nat.reduceMul, Nat.reduceEqDiff, Nat.reduceLT, Nat.reduceLeDiff, Nat.reduceSub, Nat.reducePow, Nat.reduceBEq, Int.reduceToNat, List.reduceReplicate]) ?_ ?_
  · intro hb
    try simp only [hB, decide_eq_true_eq, decide_eq_false_iff_not] at hb
    have hgR := ints_getD (l := R) (i := j) (by omega)
    have hcs := cntR_succ (R := R) (j := j) (by omega)
    have hcl := cntR_le R j
    refine AW.skip ?_
    refine hK6 _ _ _ ?_; clear hK6
    refine AW.seq fun K8 hK8 => ?_
    refine AW.block ?_
    refine AW.seq fun K9 hK9 => ?_
    -- region 6
    refine AW.regionK 0 (fun _ => none) [1, 7, 8, 9, 23] [] ?_
    simp only [go_sem, reduceIte, reduceCtorEq, Nat.reduceAdd, Nat.reduceMul, Nat.reduceEqDiff, Nat.reduceLT, Nat.reduceLeDiff, Nat.reduceSub, Nat.reducePow, Nat.reduceBEq, Int.reduceToNat, List.reduceReplicate, ints_len, hRm, hgR]
    repeat with_reducible refine cj ?_ ?_
    all_goals try first | omega
    refine hK9 _ _ _ ?_; clear hK9
    -- cond 2
    refine AW.cond rfl (by simp only [go_sem, reduceIte, reduceCtorEq, Nat.reduceAdd, Nat.reduceMul, Nat.reduceEqDiff, Nat.reduceLT, Nat.reduceLeDiff, Nat.reduceSub, Nat.reducePow, Nat.reduceBEq, Int.reduceToNat, List.reduceReplicate]) ?_ ?_
    · intro hb
      try simp only [hB, decide_eq_true_eq, decide_eq_false_iff_not] at hb
      rw [if_pos hb] at hcs
      -- region 7
      refine AW.regionK 0 (fun _ => none) [1, 7, 8, 9] [] ?_
      simp only [go_sem, reduceIte, reduceCtorEq, Nat.reduceAdd, Nat.reduceMul, Nat.reduceEqDiff, Nat.reduceLT, Nat.reduceLeDiff, Nat.reduceSub, Nat.reducePow, Nat.reduceBEq, Int.reduceToNat, List.reduceReplicate, ints_len, hRm]
      repeat with_reducible refine cj ?_ ?_
      all_goals try first | omega
      refine hK8 _ _ _ ?_; clear hK8
      -- region 5
      refine AW.regionK 0 (fun _ => none) [1, 7, 8, 9] [] ?_
      simp only [go_sem, reduceIte, reduceCtorEq, Nat.reduceAdd, Nat.reduceMul, Nat.reduceEqDiff, Nat.reduceLT, Nat.reduceLeDiff, Nat.reduceSub, Nat.reducePow, Nat.reduceBEq, Int.reduceToNat, List.reduceReplicate, ints_len, hRm]
      repeat with_reducible refine cj ?_ ?_
      all_goals try first | omega
      rw [← hQl1]
      change Exists _
      refine ⟨_, ?hm, j + 1, rfl, ?henv, ?hstore, ?hst⟩
      case henv =>
        repeat' (first | rfl | refine env_cons ?_ ?_ | refine st_cons ?_ ?_ ?_ ?_ | refine int_eq ?_ | refine bool_eq ?_ | refine rsl_eq ?_ | refine osl_eq ?_ | refine sl_eq ?_ ?_ ?_ | refine ptr_eq ?_ ?_ ?_ | refine agg_eq ?_ | refine es_cons ?_ ?_ | refine row_cons ?_ ?_)
        all_goals (first | (rw [hcs]; done) | (rw [hcs]; simp; done) | (simp; done) | omega)
      case hstore =>
        repeat' (first | rfl | refine env_cons ?_ ?_ | refine st_cons ?_ ?_ ?_ ?_ | refine int_eq ?_ | refine bool_eq ?_ | refine rsl_eq ?_ | refine osl_eq ?_ | refine sl_eq ?_ ?_ ?_ | refine ptr_eq ?_ ?_ ?_ | refine agg_eq ?_ | refine es_cons ?_ ?_ | refine row_cons ?_ ?_)
        all_goals (first | (simp; done) | omega | (simp; omega))
      case hst =>
        first | trivial | omega | (simp; done) | (simp; omega)
      case hm => omega
    · intro hb
      try simp only [hB, decide_eq_true_eq, decide_eq_false_iff_not] at hb
      rw [if_neg (by omega)] at hcs
      refine AW.skip ?_
      refine hK8 _ _ _ ?_; clear hK8
      -- region 5
      refine AW.regionK 0 (fun _ => none) [1, 7, 8, 9] [] ?_
      simp only [go_sem, reduceIte, reduceCtorEq, Nat.reduceAdd, Nat.reduceMul, Nat.reduceEqDiff, Nat.reduceLT, Nat.reduceLeDiff, Nat.reduceSub, Nat.reducePow, Nat.reduceBEq, Int.reduceToNat, List.reduceReplicate, ints_len, hRm]
      repeat with_reducible refine cj ?_ ?_
      all_goals try first | omega
      rw [← hQl1]
      change Exists _
      refine ⟨_, ?hm, j + 1, rfl, ?henv, ?hstore, ?hst⟩
      case henv =>
        repeat' (first | rfl | refine env_cons ?_ ?_ | refine st_cons ?_ ?_ ?_ ?_ | refine int_eq ?_ | refine bool_eq ?_ | refine rsl_eq ?_ | refine osl_eq ?_ | refine sl_eq ?_ ?_ ?_ | refine ptr_eq ?_ ?_ ?_ | refine agg_eq ?_ | refine es_cons ?_ ?_ | refine row_cons ?_ ?_)
        all_goals (first | (rw [hcs]; done) | (rw [hcs]; simp; done) | (simp; done) | omega)
      case hstore =>
        repeat' (first | rfl | refine env_cons ?_ ?_ | refine st_cons ?_ ?_ ?_ ?_ | refine int_eq ?_ | refine bool_eq ?_ | refine rsl_eq ?_ | refine osl_eq ?_ | refine sl_eq ?_ ?_ ?_ | refine ptr_eq ?_ ?_ ?_ | refine agg_eq ?_ | refine es_cons ?_ ?_ | refine row_cons ?_ ?_)
        all_goals (first | (simp; done) | omega | (simp; omega))
      case hst =>
        first | trivial | omega | (simp; done) | (simp; omega)
      case hm => omega
  · intro hb
    try simp only [hB, decide_eq_true_eq, decide_eq_false_iff_not] at hb
    have hj : j = m := by omega
    rw [hj]
    refine AW.keep [8] [] ?_
    try simp only [go_sem, reduceIte, reduceCtorEq, Nat.reduceAdd, Nat.reduceMul, Nat.reduceEqDiff, Nat.reduceLT, Nat.reduceLeDiff, Nat.reduceSub, Nat.reducePow, Nat.reduceBEq, Int.reduceToNat, List.reduceReplicate]
    refine AW.exit ?_
    rw [← hQl1]
    refine hK4 _ _ _ ?_; clear hK4
    refine AW.seq fun K10 hK10 => ?_
    -- region 8
    refine AW.regionK 0 (fun _ => none) [6] [] ?_
    simp only [go_sem, reduceIte, reduceCtorEq, Nat.reduceAdd, Nat.reduceMul, Nat.reduceEqDiff, Nat.reduceLT, Nat.reduceLeDiff, Nat.reduceSub, Nat.reducePow, Nat.reduceBEq, Int.reduceToNat, List.reduceReplicate, ints_len, hRm]
    repeat with_reducible refine cj ?_ ?_
    all_goals try first | omega
    refine hK10 _ _ _ ?_; clear hK10
    refine AW.ret ?_
    rw [← hQr]
    simp only [go_sem, reduceIte, reduceCtorEq, Nat.reduceAdd, Nat.reduceMul, Nat.reduceEqDiff, Nat.reduceLT, Nat.reduceLeDiff, Nat.reduceSub, Nat.reducePow, Nat.reduceBEq, Int.reduceToNat, List.reduceReplicate, ints_len, hRm]
    exact Wk.refl _
end Go.Proofs.M

namespace Go.Proofs.M
open Go.AM Go
set_option maxRecDepth 100000
set_option maxHeartbeats 2000000
def idxE (e : Int × Int) : Int := e.1 * 513 + e.2
theorem idxE_inj {a b : Int × Int} (ha : 0 ≤ a.1 ∧ 0 ≤ a.2 ∧ a.2 < 513) (hb : 0 ≤ b.1 ∧ 0 ≤ b.2 ∧ b.2 < 513) (h : (idxE a).toNat = (idxE b).toNat) : a = b := by
  unfold idxE at h
  refine Prod.ext ?_ ?_ <;> omega
def smallE (e : Int × Int) : Prop := 0 ≤ e.1 ∧ e.1 < 513 ∧ 0 ≤ e.2 ∧ e.2 < 513
def markedE (Z : List Bool) (l : List (Int × Int)) : Prop := Z.length = 263169 ∧ ∀ e, smallE e → Z.getD (idxE e).toNat false = decide (e ∈ l)
theorem markedE_succ {Z : List Bool} {l : List (Int × Int)} {e : Int × Int} (h : markedE Z l) (he : smallE e) : markedE (Z.set (idxE e).toNat true) (l ++ [e]) := by
  refine ⟨by simp [h.1], fun a ha => ?_⟩
  have hi : (idxE e).toNat < Z.length := by rw [h.1]; unfold idxE smallE at *; omega
  by_cases e1 : a = e
  · subst e1
    rw [Go.AM.getD_set_eq hi]; simp
  · rw [Go.AM.getD_set_ne (fun h2 => e1 (idxE_inj (by unfold smallE at ha; omega) (by unfold smallE at he; omega) h2.symm)), h.2 a ha]
    simp [e1]
theorem not_nodup {E : List (Int × Int)} {j : Nat} {e : Int × Int} (he : E[j]? = some e) (h : e ∈ E.take j) : ¬ E.Nodup := fun hn => by
  rw [List.mem_take_iff_getElem] at h
  obtain ⟨i, hi, e1⟩ := h
  have hj := (List.getElem?_eq_some_iff.1 he).1
  refine List.pairwise_iff_getElem.1 hn i j (by omega) hj (by omega) ?_
  rw [e1]; exact ((List.getElem?_eq_some_iff.1 he).2).symm
theorem nodup_snoc {l : List (Int × Int)} {e : Int × Int} (h : l.Nodup) (he : e ∉ l) : (l ++ [e]).Nodup := List.nodup_append.2 ⟨h, by simp, by
  intro a ha b hb2
  simp only [List.mem_singleton] at hb2
  subst hb2
  rintro rfl
  exact he ha⟩
theorem repl_bools (N : Nat) : List.replicate N [AV.bool false] = bools (List.replicate N false) := by simp [bools]
theorem marked0 (N : Nat) (hN : N = 263169) : markedE (List.replicate N false) [] := by
  refine ⟨by rw [List.length_replicate, hN], fun e _ => ?_⟩
  rw [List.getD_eq_getElem?_getD, List.getElem?_replicate]
  split <;> rfl
theorem twice_r {E : List (Int × Int)} (hE : ∀ e ∈ E, smallE e) (hl : E.length ≤ 9223372036854775807) : Reads Try.prog 36 false [.rsl 2 (E.map pairV)] (.bool (!decide E.Nodup)) := by
  obtain ⟨N, hN⟩ : ∃ N : Nat, N = 263169 := ⟨_, rfl⟩
  have hm0 := marked0 N hN
  have hz := repl_bools N
  generalize List.replicate N false = Z0 at *
  rw [hN] at hz
  refine Reads.body (rs := [.tmp 2]) Try.func36 rfl Try.ntmps36 rfl (by simp) ?_
  generalize hQr : retQ _ _ _ = Qr
  refine AW.seq fun K1 hK1 => ?_
  -- region 0
  refine AW.regionK 0 (fun _ => none) [0] [] ?_
  simp only [go_sem, reduceIte, reduceCtorEq, Nat.reduceAdd, Nat.reduceMul, Nat.reduceEqDiff, Nat.reduceLT, Nat.reduceLeDiff, Nat.reduceSub, Nat.reducePow, Nat.reduceBEq, Int.reduceToNat, List.reduceReplicate]
  repeat with_reducible refine cj ?_ ?_
  all_goals try first | omega
  refine hK1 _ _ _ ?_; clear hK1
  refine AW.seq fun K2 hK2 => ?_
  -- region 1
  refine AW.regionK 0 (fun _ => none) [0, 3] [6] ?_
  simp only [go_sem, reduceIte, reduceCtorEq, Nat.reduceAdd, Nat.reduceMul, Nat.reduceEqDiff, Nat.reduceLT, Nat.reduceLeDiff, Nat.reduceSub, Nat.reducePow, Nat.reduceBEq, Int.reduceToNat, hz, -List.reduceReplicate]
  refine ⟨by decide, by decide, by decide, ?_⟩
  try simp only [go_sem, reduceIte, reduceCtorEq, Nat.reduceAdd, Nat.reduceMul, Nat.reduceEqDiff, Nat.reduceLT, Nat.reduceLeDiff, Nat.reduceSub, Nat.reducePow, Nat.reduceBEq, Int.reduceToNat, List.reduceReplicate]
  refine hK2 _ _ _ ?_; clear hK2
  refine AW.seq fun K3 hK3 => ?_
  refine AW.seq fun K4 hK4 => ?_
  -- region 2
  refine AW.regionK 0 (fun _ => none) [0, 3, 4] [6] ?_
  simp only [go_sem, reduceIte, reduceCtorEq, Nat.reduceAdd, Nat.reduceMul, Nat.reduceEqDiff, Nat.reduceLT, Nat.reduceLeDiff, Nat.reduceSub, Nat.reducePow, Nat.reduceBEq, Int.reduceToNat, List.reduceReplicate]
  repeat with_reducible refine cj ?_ ?_
  all_goals try first | omega
  refine hK4 _ _ _ ?_; clear hK4
  refine AW.block ?_
  -- loop 1
  refine AW.loopE (fun mm ee ss kk => ∃ (j g v : Nat) (Z : List Bool), E.length - j = mm ∧ ee = [(0, .rsl 2 (E.map pairV)), (3, .sl ⟨6, g, none⟩ 0 263169 (some 263169)), (4, .int .i64 (j : Nat))] ∧ ss = [(6, some ⟨g, v, 1, bools Z⟩)] ∧ (j ≤ E.length ∧ (E.take j).Nodup ∧ markedE Z (E.take j))) ?_ ?_
  · refine ⟨_, 0, ?_, ?_, Z0, rfl, ?henv, ?hstore, ?hst⟩
    case henv =>
      repeat' (first | rfl | refine env_cons ?_ ?_ | refine st_cons ?_ ?_ ?_ ?_ | refine int_eq ?_ | refine bool_eq ?_ | refine rsl_eq ?_ | refine osl_eq ?_ | refine sl_eq ?_ ?_ ?_ | refine ptr_eq ?_ ?_ ?_ | refine agg_eq ?_ | refine es_cons ?_ ?_ | refine row_cons ?_ ?_)
      all_goals (first | (simp; done) | omega | (simp; omega))
    case hstore =>
      repeat' (first | rfl | refine env_cons ?_ ?_ | refine st_cons ?_ ?_ ?_ ?_ | refine int_eq ?_ | refine bool_eq ?_ | refine rsl_eq ?_ | refine osl_eq ?_ | refine sl_eq ?_ ?_ ?_ | refine ptr_eq ?_ ?_ ?_ | refine agg_eq ?_ | refine es_cons ?_ ?_ | refine row_cons ?_ ?_)
      all_goals (first | (simp; done) | omega | (simp; omega))
    case hst =>
      exact ⟨by omega, by simp, by simpa using hm0⟩
  rintro mm ee ss kk ⟨j, g, v, Z, rfl, rfl, rfl, hI⟩
  generalize hQl1 : thenQ _ _ = Ql1
  obtain ⟨hj, hnd, hmk⟩ := hI
  have hZl := hmk.1
  refine AW.seq fun K5 hK5 => ?_
  refine AW.seq fun K6 hK6 => ?_
  -- region 3
  refine AW.regionK 0 (fun _ => none) [0, 3, 4, 10] [6] ?_
  simp only [go_sem, reduceIte, reduceCtorEq, Nat.reduceAdd, Nat.reduceMul, Nat.reduceEqDiff, Nat.reduceLT, Nat.reduceLeDiff, Nat.reduceSub, Nat.reducePow, Nat.reduceBEq, Int.reduceToNat, List.reduceReplicate]
  repeat with_reducible refine cj ?_ ?_
  all_goals try first | omega
  refine hK6 _ _ _ ?_; clear hK6
  -- cond 1
  refine AW.cond rfl (by simp only [go_sem, reduceIte, reduceCtorEq, Nat.reduceAdd, Nat.reduceMul, Nat.reduceEqDiff, Nat.reduceLT, Nat.reduceLeDiff, Nat.reduceSub, Nat.reducePow, Nat.reduceBEq, Int.reduceToNat, List.reduceReplicate]) ?_ ?_
  · intro hb
    try simp only [hB, decide_eq_true_eq, decide_eq_false_iff_not] at hb
    obtain ⟨e, he⟩ := getI (l := E) (j := j) (by omega)
    have hge := getV (f := pairV) he
    have hes := hE e (List.mem_of_getElem? he)
    have hme := hmk.2 e hes
    have hms := markedE_succ hmk hes
    have hes2 := hes
    unfold smallE at hes2
    have hts : E.take (j + 1) = E.take j ++ [e] := by rw [List.take_add_one, he]; rfl
    have hgZ := bools_getD (l := Z) (i := (idxE e).toNat) (by rw [hZl]; unfold idxE; omega)
    have huZ := bools_upd Z (idxE e).toNat true
    unfold idxE at hgZ huZ hms hme
    rw [hme] at hgZ
    refine AW.skip ?_
    refine hK5 _ _ _ ?_; clear hK5
    refine AW.seq fun K7 hK7 => ?_
    refine AW.block ?_
    refine AW.seq fun K8 hK8 => ?_
    -- region 5
    refine AW.regionD mixed 0 (fun _ => none) [0, 3, 4, 5] [6] ?_
    simp only [go_sem, reduceIte, reduceCtorEq, Nat.reduceAdd, Nat.reduceMul, Nat.reduceEqDiff, Nat.reduceLT, Nat.reduceLeDiff, Nat.reduceSub, Nat.reducePow, Nat.reduceBEq, Int.reduceToNat, List.reduceReplicate, hge, pairV]
    repeat with_reducible refine cj ?_ ?_
    all_goals try first | omega | exact chk (by kernel_rfl)
    refine hK8 _ _ _ ?_; clear hK8
    refine AW.seq fun K9 hK9 => ?_
    refine AW.seq fun K10 hK10 => ?_
    -- region 6
    refine AW.regionK 0 (fun _ => none) [0, 3, 4, 5, 28] [6] ?_
    simp only [go_sem, reduceIte, reduceCtorEq, Nat.reduceAdd, Nat.reduceMul, Nat.reduceEqDiff, Nat.reduceLT, Nat.reduceLeDiff, Nat.reduceSub, Nat.reducePow, Nat.reduceBEq, Int.reduceToNat, List.reduceReplicate, bools_len, hZl, hgZ]
    repeat with_reducible refine cj ?_ ?_
    all_goals try first | omega
    refine hK10 _ _ _ ?_; clear hK10
    -- cond 2
    refine AW.cond rfl (by simp only [go_sem, reduceIte, reduceCtorEq, Nat.reduceAdd, Nat.reduceMul, Nat.reduceEqDiff, Nat.reduceLT, Nat.reduceLeDiff, Nat.reduceSub, Nat.reducePow, Nat.reduceBEq, Int.reduceToNat, List.reduceReplicate]) ?_ ?_
    · intro hb
      try simp only [hB, decide_eq_true_eq, decide_eq_false_iff_not] at hb
      refine AW.seq fun K11 hK11 => ?_
      -- region 7
      refine AW.regionK 0 (fun _ => none) [2] [] ?_
      simp only [go_sem, reduceIte, reduceCtorEq, Nat.reduceAdd, Nat.reduceMul, Nat.reduceEqDiff, Nat.reduceLT, Nat.reduceLeDiff, Nat.reduceSub, Nat.reducePow, Nat.reduceBEq, Int.reduceToNat, List.reduceReplicate]
      repeat with_reducible refine cj ?_ ?_
      all_goals try first | omega
      refine hK11 _ _ _ ?_; clear hK11
      refine AW.ret ?_
      rw [← hQl1]
      rw [← hQr]
      simp only [go_sem, reduceIte, reduceCtorEq, Nat.reduceAdd, Nat.reduceMul, Nat.reduceEqDiff, Nat.reduceLT, Nat.reduceLeDiff, Nat.reduceSub, Nat.reducePow, Nat.reduceBEq, Int.reduceToNat, List.reduceReplicate]
      exact Wk.of_eq (by have := not_nodup he hb; simp [this])
    · intro hb
      try simp only [hB, decide_eq_true_eq, decide_eq_false_iff_not] at hb
      refine AW.skip ?_
      refine hK9 _ _ _ ?_; clear hK9
      -- region 8
      refine AW.regionK 0 (fun _ => none) [0, 3, 4] [6] ?_
      simp only [go_sem, reduceIte, reduceCtorEq, Nat.reduceAdd, Nat.reduceMul, Nat.reduceEqDiff, Nat.reduceLT, Nat.reduceLeDiff, Nat.reduceSub, Nat.reducePow, Nat.reduceBEq, Int.reduceToNat, List.reduceReplicate, bools_len, hZl, huZ]
      repeat with_reducible refine cj ?_ ?_
      all_goals try first | omega
      refine hK7 _ _ _ ?_; clear hK7
      -- region 4
      refine AW.regionK 0 (fun _ => none) [0, 3, 4] [6] ?_
      simp only [go_sem, reduceIte, reduceCtorEq, Nat.reduceAdd, Nat.reduceMul, Nat.reduceEqDiff, Nat.reduceLT, Nat.reduceLeDiff, Nat.reduceSub, Nat.reducePow, Nat.reduceBEq, Int.reduceToNat, List.reduceReplicate]
      repeat with_reducible refine cj ?_ ?_
      all_goals try first | omega
      rw [← hQl1]
      change Exists _
      refine ⟨_, ?hm, j + 1, ?_, ?_, ?_, rfl, ?henv, ?hstore, ?hst⟩
      case henv =>
        repeat' (first | rfl | refine env_cons ?_ ?_ | refine st_cons ?_ ?_ ?_ ?_ | refine int_eq ?_ | refine bool_eq ?_ | refine rsl_eq ?_ | refine osl_eq ?_ | refine sl_eq ?_ ?_ ?_ | refine ptr_eq ?_ ?_ ?_ | refine agg_eq ?_ | refine es_cons ?_ ?_ | refine row_cons ?_ ?_)
        all_goals (first | (simp; done) | omega | (simp; omega))
      case hstore =>
        repeat' (first | rfl | refine env_cons ?_ ?_ | refine st_cons ?_ ?_ ?_ ?_ | refine int_eq ?_ | refine bool_eq ?_ | refine rsl_eq ?_ | refine osl_eq ?_ | refine sl_eq ?_ ?_ ?_ | refine ptr_eq ?_ ?_ ?_ | refine agg_eq ?_ | refine es_cons ?_ ?_ | refine row_cons ?_ ?_)
        all_goals (first | (simp; done) | omega | (simp; omega))
      case hst =>
        exact ⟨by omega, by rw [hts]; exact nodup_snoc hnd hb, by rw [hts]; exact hms⟩
      case hm => omega
  · intro hb
    try simp only [hB, decide_eq_true_eq, decide_eq_false_iff_not] at hb
    have hj2 : j = E.length := by omega
    rw [hj2, List.take_length] at hnd
    refine AW.keep [] [] ?_
    try simp only [go_sem, reduceIte, reduceCtorEq, Nat.reduceAdd, Nat.reduceMul, Nat.reduceEqDiff, Nat.reduceLT, Nat.reduceLeDiff, Nat.reduceSub, Nat.reducePow, Nat.reduceBEq, Int.reduceToNat, List.reduceReplicate]
    refine AW.exit ?_
    rw [← hQl1]
    refine hK3 _ _ _ ?_; clear hK3
    refine AW.seq fun K12 hK12 => ?_
    -- region 9
    refine AW.regionK 0 (fun _ => none) [2] [] ?_
    simp only [go_sem, reduceIte, reduceCtorEq, Nat.reduceAdd, Nat.reduceMul, Nat.reduceEqDiff, Nat.reduceLT, Nat.reduceLeDiff, Nat.reduceSub, Nat.reducePow, Nat.reduceBEq, Int.reduceToNat, List.reduceReplicate]
    repeat with_reducible refine cj ?_ ?_
    all_goals try first | omega
    refine hK12 _ _ _ ?_; clear hK12
    refine AW.ret ?_
    rw [← hQr]
    simp only [go_sem, reduceIte, reduceCtorEq, Nat.reduceAdd, Nat.reduceMul, Nat.reduceEqDiff, Nat.reduceLT, Nat.reduceLeDiff, Nat.reduceSub, Nat.reducePow, Nat.reduceBEq, Int.reduceToNat, List.reduceReplicate]
    exact Wk.of_eq (by simp [hnd])
end Go.Proofs.M

namespace Go.Proofs.M
open Go.AM Go
set_option maxRecDepth 100000
set_option maxHeartbeats 2000000
theorem rvalid_r (n m : Int) (E : List (Int × Int)) (hl : E.length ≤ 9223372036854775807) : Reads Try.prog 13 false [.int .i64 n, .int .i64 m, .rsl 2 (E.map pairV)] (.bool (validM n m E)) := by
  refine Reads.body (rs := [.tmp 6]) Try.func13 rfl Try.ntmps13 rfl (by simp) ?_
  generalize hQr : retQ _ _ _ = Qr
  refine AW.seq fun K1 hK1 => ?_
  -- region 0
  refine AW.regionK 0 (fun _ => none) [0, 1, 2] [] ?_
  simp only [go_sem, reduceIte, reduceCtorEq, Nat.reduceAdd, Nat.reduceMul, Nat.reduceEqDiff, Nat.reduceLT, Nat.reduceLeDiff, Nat.reduceSub, Nat.reducePow, Nat.reduceBEq, Int.reduceToNat, List.reduceReplicate]
  repeat with_reducible refine cj ?_ ?_
  all_goals try first | omega
  refine hK1 _ _ _ ?_; clear hK1
  refine AW.seq fun K2 hK2 => ?_
  refine AW.seq fun K3 hK3 => ?_
  -- region 1
  refine AW.regionK 0 (fun _ => none) [0, 1, 2, 26] [] ?_
  simp only [go_sem, reduceIte, reduceCtorEq, Nat.reduceAdd, Nat.reduceMul, Nat.reduceEqDiff, Nat.reduceLT, Nat.reduceLeDiff, Nat.reduceSub, Nat.reducePow, Nat.reduceBEq, Int.reduceToNat, List.reduceReplicate]
  repeat with_reducible refine cj ?_ ?_
  all_goals try first | omega | (intros; (repeat' apply And.intro) <;> first | assumption | omega | decide) | (intro hgd; exact absurd hgd (by decide)) | rfl | (simp only [go_sem, reduceIte, reduceCtorEq, Nat.reduceAdd, Nat.reduceMul, Nat.reduceEqDiff, Nat.reduceLT, Nat.reduceLeDiff, Nat.reduceSub, Nat.reducePow, Nat.reduceBEq, Int.reduceToNat, List.reduceReplicate]; done) | (intro _hgd; simp_all [go_sem]; done)
  refine hK3 _ _ _ ?_; clear hK3
  -- cond 1
  refine AW.cond rfl (by simp only [go_sem, reduceIte, reduceCtorEq, Nat.reduceAdd, Nat.reduceMul, Nat.reduceEqDiff, Nat.reduceLT, Nat.reduceLeDiff, Nat.reduceSub, Nat.reducePow, Nat.reduceBEq, Int.reduceToNat, List.reduceReplicate]) ?_ ?_
  · intro hb
    try simp only [hB, decide_eq_true_eq, decide_eq_false_iff_not] at hb
    refine AW.seq fun K4 hK4 => ?_
    -- region 2
    refine AW.regionK 0 (fun _ => none) [6] [] ?_
    simp only [go_sem, reduceIte, reduceCtorEq, Nat.reduceAdd, Nat.reduceMul, Nat.reduceEqDiff, Nat.reduceLT, Nat.reduceLeDiff, Nat.reduceSub, Nat.reducePow, Nat.reduceBEq, Int.reduceToNat, List.reduceReplicate]
    repeat with_reducible refine cj ?_ ?_
    all_goals try first | omega
    refine hK4 _ _ _ ?_; clear hK4
    refine AW.ret ?_
    rw [← hQr]
    simp only [go_sem, reduceIte, reduceCtorEq, Nat.reduceAdd, Nat.reduceMul, Nat.reduceEqDiff, Nat.reduceLT, Nat.reduceLeDiff, Nat.reduceSub, Nat.reducePow, Nat.reduceBEq, Int.reduceToNat, List.reduceReplicate]
    have hsz : sizesM n m E = false := by simp only [sizesM, hB.2.2.2.2.1, decide_eq_false_iff_not]; omega
    exact Wk.of_eq (by rw [validM, hsz]; rfl)
  · intro hb
    try simp only [hB, decide_eq_true_eq, decide_eq_false_iff_not] at hb
    have hsz : sizesM n m E = true := by simp only [sizesM, hB.2.1, decide_eq_true_eq]; omega
    obtain ⟨⟨⟨⟨q1, q2⟩, q3⟩, q4⟩, q5⟩ := hb
    refine AW.skip ?_
    refine hK2 _ _ _ ?_; clear hK2
    refine AW.seq fun K5 hK5 => ?_
    refine AW.seq fun K6 hK6 => ?_
    -- region 3
    refine AW.regionK 0 (fun _ => none) [0, 1, 2, 7] [] ?_
    simp only [go_sem, reduceIte, reduceCtorEq, Nat.reduceAdd, Nat.reduceMul, Nat.reduceEqDiff, Nat.reduceLT, Nat.reduceLeDiff, Nat.reduceSub, Nat.reducePow, Nat.reduceBEq, Int.reduceToNat, List.reduceReplicate]
    repeat with_reducible refine cj ?_ ?_
    all_goals try first | omega
    refine hK6 _ _ _ ?_; clear hK6
    refine AW.block ?_
    -- loop 1
    refine AW.loopE (fun mm ee ss kk => ∃ (j : Nat), E.length - j = mm ∧ ee = [(0, .int .i64 n), (1, .int .i64 m), (2, .rsl 2 (E.map pairV)), (7, .int .i64 (j : Nat))] ∧ ss = [] ∧ (j ≤ E.length ∧ ∀ e ∈ E.take j, edgeIn n m e = true)) ?_ ?_
    · refine ⟨_, 0, rfl, ?henv, ?hstore, ?hst⟩
      case henv =>
        repeat' (first | rfl | refine env_cons ?_ ?_ | refine st_cons ?_ ?_ ?_ ?_ | refine int_eq ?_ | refine bool_eq ?_ | refine rsl_eq ?_ | refine osl_eq ?_ | refine sl_eq ?_ ?_ ?_ | refine ptr_eq ?_ ?_ ?_ | refine agg_eq ?_ | refine es_cons ?_ ?_ | refine row_cons ?_ ?_)
        all_goals (first | (simp; done) | omega | (simp; omega))
      case hstore =>
        repeat' (first | rfl | refine env_cons ?_ ?_ | refine st_cons ?_ ?_ ?_ ?_ | refine int_eq ?_ | refine bool_eq ?_ | refine rsl_eq ?_ | refine osl_eq ?_ | refine sl_eq ?_ ?_ ?_ | refine ptr_eq ?_ ?_ ?_ | refine agg_eq ?_ | refine es_cons ?_ ?_ | refine row_cons ?_ ?_)
        all_goals (first | (simp; done) | omega | (simp; omega))
      case hst =>
        exact ⟨by omega, by simp⟩
    rintro mm ee ss kk ⟨j, rfl, rfl, rfl, hI⟩
    generalize hQl1 : thenQ _ _ = Ql1
    obtain ⟨hj, hall⟩ := hI
    refine AW.seq fun K7 hK7 => ?_
    refine AW.seq fun K8 hK8 => ?_
    -- region 4
    refine AW.regionK 0 (fun _ => none) [0, 1, 2, 7, 30] [] ?_
    simp only [go_sem, reduceIte, reduceCtorEq, Nat.reduceAdd, Nat.reduceMul, Nat.reduceEqDiff, Nat.reduceLT, Nat.reduceLeDiff, Nat.reduceSub, Nat.reducePow, Nat.reduceBEq, Int.reduceToNat, List.reduceReplicate]
    repeat with_reducible refine cj ?_ ?_
    all_goals try first | omega
    refine hK8 _ _ _ ?_; clear hK8
    -- cond 2
    refine AW.cond rfl (by simp only [go_sem, reduceIte, reduceCtorEq, Nat.reduceAdd, Nat.reduceMul, Nat.reduceEqDiff, Nat.reduceLT, Nat.reduceLeDiff, Nat.reduceSub, Nat.reducePow, Nat.reduceBEq, Int.reduceToNat, List.reduceReplicate]) ?_ ?_
    · intro hb
      try simp only [hB, decide_eq_true_eq, decide_eq_false_iff_not] at hb
      obtain ⟨e, he⟩ := getI (l := E) (j := j) (by omega)
      have hge := getV (f := pairV) he
      have hts : E.take (j + 1) = E.take j ++ [e] := by rw [List.take_add_one, he]; rfl
      refine AW.skip ?_
      refine hK7 _ _ _ ?_; clear hK7
      refine AW.seq fun K9 hK9 => ?_
      refine AW.block ?_
      refine AW.seq fun K10 hK10 => ?_
      -- region 6
      refine AW.regionK 0 (fun _ => none) [0, 1, 2, 7, 64] [] ?_
      simp only [go_sem, reduceIte, reduceCtorEq, Nat.reduceAdd, Nat.reduceMul, Nat.reduceEqDiff, Nat.reduceLT, Nat.reduceLeDiff, Nat.reduceSub, Nat.reducePow, Nat.reduceBEq, Int.reduceToNat, List.reduceReplicate, hge, pairV]
      repeat with_reducible refine cj ?_ ?_
      all_goals try first | omega | (intros; (repeat' apply And.intro) <;> first | assumption | omega | decide) | (intro hgd; exact absurd hgd (by decide)) | rfl | (simp only [go_sem, reduceIte, reduceCtorEq, Nat.reduceAdd, Nat.reduceMul, Nat.reduceEqDiff, Nat.reduceLT, Nat.reduceLeDiff, Nat.reduceSub, Nat.reducePow, Nat.reduceBEq, Int.reduceToNat, List.reduceReplicate, hge, pairV]; done) | (intro _hgd; simp_all [go_sem]; done)
      refine hK10 _ _ _ ?_; clear hK10
      -- cond 3
      refine AW.cond rfl (by simp only [go_sem, reduceIte, reduceCtorEq, Nat.reduceAdd, Nat.reduceMul, Nat.reduceEqDiff, Nat.reduceLT, Nat.reduceLeDiff, Nat.reduceSub, Nat.reducePow, Nat.reduceBEq, Int.reduceToNat, List.reduceReplicate]) ?_ ?_
      · intro hb
        try simp only [hB, decide_eq_true_eq, decide_eq_false_iff_not] at hb
        refine AW.seq fun K11 hK11 => ?_
        -- region 7
        refine AW.regionK 0 (fun _ => none) [6] [] ?_
        simp only [go_sem, reduceIte, reduceCtorEq, Nat.reduceAdd, Nat.reduceMul, Nat.reduceEqDiff, Nat.reduceLT, Nat.reduceLeDiff, Nat.reduceSub, Nat.reducePow, Nat.reduceBEq, Int.reduceToNat, List.reduceReplicate]
        repeat with_reducible refine cj ?_ ?_
        all_goals try first | omega
        refine hK11 _ _ _ ?_; clear hK11
        refine AW.ret ?_
        rw [← hQl1]
        rw [← hQr]
        simp only [go_sem, reduceIte, reduceCtorEq, Nat.reduceAdd, Nat.reduceMul, Nat.reduceEqDiff, Nat.reduceLT, Nat.reduceLeDiff, Nat.reduceSub, Nat.reducePow, Nat.reduceBEq, Int.reduceToNat, List.reduceReplicate]
        exact Wk.of_eq (by rw [good_bad he (.inl (edgeIn_false (by omega)))])
      · intro hb
        try simp only [hB, decide_eq_true_eq, decide_eq_false_iff_not] at hb
        have hei := edgeIn_iff (n := n) (m := m) (e := e)
        refine AW.skip ?_
        refine hK9 _ _ _ ?_; clear hK9
        -- region 5
        refine AW.regionK 0 (fun _ => none) [0, 1, 2, 7] [] ?_
        simp only [go_sem, reduceIte, reduceCtorEq, Nat.reduceAdd, Nat.reduceMul, Nat.reduceEqDiff, Nat.reduceLT, Nat.reduceLeDiff, Nat.reduceSub, Nat.reducePow, Nat.reduceBEq, Int.reduceToNat, List.reduceReplicate]
        repeat with_reducible refine cj ?_ ?_
        all_goals try first | omega
        rw [← hQl1]
        change Exists _
        refine ⟨_, ?hm, j + 1, rfl, ?henv, ?hstore, ?hst⟩
        case henv =>
          repeat' (first | rfl | refine env_cons ?_ ?_ | refine st_cons ?_ ?_ ?_ ?_ | refine int_eq ?_ | refine bool_eq ?_ | refine rsl_eq ?_ | refine osl_eq ?_ | refine sl_eq ?_ ?_ ?_ | refine ptr_eq ?_ ?_ ?_ | refine agg_eq ?_ | refine es_cons ?_ ?_ | refine row_cons ?_ ?_)
          all_goals (first | (simp; done) | omega | (simp; omega))
        case hstore =>
          repeat' (first | rfl | refine env_cons ?_ ?_ | refine st_cons ?_ ?_ ?_ ?_ | refine int_eq ?_ | refine bool_eq ?_ | refine rsl_eq ?_ | refine osl_eq ?_ | refine sl_eq ?_ ?_ ?_ | refine ptr_eq ?_ ?_ ?_ | refine agg_eq ?_ | refine es_cons ?_ ?_ | refine row_cons ?_ ?_)
          all_goals (first | (simp; done) | omega | (simp; omega))
        case hst =>
          exact ⟨by omega, fun x hx => by rw [hts] at hx; rcases List.mem_append.1 hx with h1 | h1; exact hall x h1; simp only [List.mem_singleton] at h1; subst h1; exact hei.2 (by omega)⟩
        case hm => omega
    · intro hb
      try simp only [hB, decide_eq_true_eq, decide_eq_false_iff_not] at hb
      have hj2 : j = E.length := by omega
      rw [hj2, List.take_length] at hall
      have htw := twice_r (E := E) (fun e he => by have := edgeIn_iff.1 (hall e he); unfold smallE; omega) hl
      have hva : E.all (edgeIn n m) = true := List.all_eq_true.2 hall
      refine AW.keep [2] [] ?_
      try simp only [go_sem, reduceIte, reduceCtorEq, Nat.reduceAdd, Nat.reduceMul, Nat.reduceEqDiff, Nat.reduceLT, Nat.reduceLeDiff, Nat.reduceSub, Nat.reducePow, Nat.reduceBEq, Int.reduceToNat, List.reduceReplicate]
      refine AW.exit ?_
      rw [← hQl1]
      refine hK5 _ _ _ ?_; clear hK5
      refine AW.seq fun K12 hK12 => ?_
      -- region 8
      refine AW.regionK 0 (fun ii => if ii = 1 then some (.reads false (.bool (!decide E.Nodup))) else none) [6] [] ?_
      simp only [go_sem, reduceIte, reduceCtorEq, Nat.reduceAdd, Nat.reduceMul, Nat.reduceEqDiff, Nat.reduceLT, Nat.reduceLeDiff, Nat.reduceSub, Nat.reducePow, Nat.reduceBEq, Int.reduceToNat, List.reduceReplicate]
      repeat with_reducible refine cj ?_ ?_
      all_goals try first | (exact htw) | omega | exact ent (by kernel_rfl)
      refine hK12 _ _ _ ?_; clear hK12
      refine AW.ret ?_
      rw [← hQr]
      simp only [go_sem, reduceIte, reduceCtorEq, Nat.reduceAdd, Nat.reduceMul, Nat.reduceEqDiff, Nat.reduceLT, Nat.reduceLeDiff, Nat.reduceSub, Nat.reducePow, Nat.reduceBEq, Int.reduceToNat, List.reduceReplicate]
      exact Wk.of_eq (by rw [validM, hsz, hva]; simp)
end Go.Proofs.M

namespace Go.Proofs.M
open Go.AM Go
set_option maxRecDepth 100000
set_option maxHeartbeats 2000000
theorem pair_dec (a b : Int × Int) : (decide (a.1 = b.1) && decide (a.2 = b.2)) = decide (a = b) := by
  obtain ⟨a1, a2⟩ := a; obtain ⟨b1, b2⟩ := b
  simp only [Prod.mk.injEq, Bool.decide_and]
theorem has_r (E : List (Int × Int)) (x : Int × Int) (hl : E.length ≤ 9223372036854775807) : Reads Try.prog 37 false [.rsl 2 (E.map pairV), .agg (pairV x)] (.bool (decide (x ∈ E))) := by
  unfold pairV
  have hpv : (fun p : Int × Int => [AV.int .i64 p.1, AV.int .i64 p.2]) = pairV := rfl
  refine Reads.body (rs := [.tmp 4]) Try.func37 rfl Try.ntmps37 rfl (by simp) ?_
  generalize hQr : retQ _ _ _ = Qr
  refine AW.seq fun K1 hK1 => ?_
  -- region 0
  refine AW.regionK 0 (fun _ => none) [0, 3] [3] ?_
  simp only [go_sem, reduceIte, reduceCtorEq, Nat.reduceAdd, Nat.reduceMul, Nat.reduceEqDiff, Nat.reduceLT, Nat.reduceLeDiff, Nat.reduceSub, Nat.reducePow, Nat.reduceBEq, Int.reduceToNat, List.reduceReplicate, hpv]
  repeat with_reducible refine cj ?_ ?_
  all_goals try first | omega
  refine hK1 _ _ _ ?_; clear hK1
  refine AW.seq fun K2 hK2 => ?_
  refine AW.seq fun K3 hK3 => ?_
  -- region 1
  refine AW.regionK 0 (fun _ => none) [0, 3, 5] [3] ?_
  simp only [go_sem, reduceIte, reduceCtorEq, Nat.reduceAdd, Nat.reduceMul, Nat.reduceEqDiff, Nat.reduceLT, Nat.reduceLeDiff, Nat.reduceSub, Nat.reducePow, Nat.reduceBEq, Int.reduceToNat, List.reduceReplicate, hpv]
  repeat with_reducible refine cj ?_ ?_
  all_goals try first | omega
  refine hK3 _ _ _ ?_; clear hK3
  refine AW.block ?_
  -- loop 1
  refine AW.loopE (fun mm ee ss kk => ∃ (j g v : Nat), E.length - j = mm ∧ ee = [(0, .rsl 2 (E.map pairV)), (3, .ptr ⟨3, g, none⟩ 0 0), (5, .int .i64 (j : Nat))] ∧ ss = [(3, some ⟨g, v, 2, [[.int .i64 x.1, .int .i64 x.2]]⟩)] ∧ (j ≤ E.length ∧ x ∉ E.take j)) ?_ ?_
  · refine ⟨_, 0, ?_, ?_, rfl, ?henv, ?hstore, ?hst⟩
    case henv =>
      repeat' (first | rfl | refine env_cons ?_ ?_ | refine st_cons ?_ ?_ ?_ ?_ | refine int_eq ?_ | refine bool_eq ?_ | refine rsl_eq ?_ | refine osl_eq ?_ | refine sl_eq ?_ ?_ ?_ | refine ptr_eq ?_ ?_ ?_ | refine agg_eq ?_ | refine es_cons ?_ ?_ | refine row_cons ?_ ?_)
      all_goals (first | (simp; done) | omega | (simp; omega))
    case hstore =>
      repeat' (first | rfl | refine env_cons ?_ ?_ | refine st_cons ?_ ?_ ?_ ?_ | refine int_eq ?_ | refine bool_eq ?_ | refine rsl_eq ?_ | refine osl_eq ?_ | refine sl_eq ?_ ?_ ?_ | refine ptr_eq ?_ ?_ ?_ | refine agg_eq ?_ | refine es_cons ?_ ?_ | refine row_cons ?_ ?_)
      all_goals (first | (simp; done) | omega | (simp; omega))
    case hst =>
      exact ⟨by omega, by simp⟩
  rintro mm ee ss kk ⟨j, g, v, rfl, rfl, rfl, hI⟩
  generalize hQl1 : thenQ _ _ = Ql1
  obtain ⟨hj, hno⟩ := hI
  refine AW.seq fun K4 hK4 => ?_
  refine AW.seq fun K5 hK5 => ?_
  -- region 2
  refine AW.regionK 0 (fun _ => none) [0, 3, 5, 9] [3] ?_
  simp only [go_sem, reduceIte, reduceCtorEq, Nat.reduceAdd, Nat.reduceMul, Nat.reduceEqDiff, Nat.reduceLT, Nat.reduceLeDiff, Nat.reduceSub, Nat.reducePow, Nat.reduceBEq, Int.reduceToNat, List.reduceReplicate, hpv]
  repeat with_reducible refine cj ?_ ?_
  all_goals try first | omega
  refine hK5 _ _ _ ?_; clear hK5
  -- cond 1
  refine AW.cond rfl (by simp only [go_sem, reduceIte, reduceCtorEq, Nat.reduceAdd, Nat.reduceMul, Nat.reduceEqDiff, Nat.reduceLT, Nat.reduceLeDiff, Nat.reduceSub, Nat.reducePow, Nat.reduceBEq, Int.reduceToNat, List.reduceReplicate]) ?_ ?_
  · intro hb
    try simp only [hB, decide_eq_true_eq, decide_eq_false_iff_not] at hb
    obtain ⟨e, he⟩ := getI (l := E) (j := j) (by omega)
    have hge := getV (f := pairV) he
    have hts : E.take (j + 1) = E.take j ++ [e] := by rw [List.take_add_one, he]; rfl
    have hpd := pair_dec e x
    refine AW.skip ?_
    refine hK4 _ _ _ ?_; clear hK4
    refine AW.seq fun K6 hK6 => ?_
    refine AW.block ?_
    refine AW.seq fun K7 hK7 => ?_
    -- region 4
    refine AW.regionD mixed 0 (fun _ => none) [0, 3, 5, 17] [3] ?_
    simp only [go_sem, reduceIte, reduceCtorEq, Nat.reduceAdd, Nat.reduceMul, Nat.reduceEqDiff, Nat.reduceLT, Nat.reduceLeDiff, Nat.reduceSub, Nat.reducePow, Nat.reduceBEq, Int.reduceToNat, List.reduceReplicate, hpv, hge, pairV, hpd]
    repeat with_reducible refine cj ?_ ?_
    all_goals try first | omega | exact chk (by kernel_rfl)
    refine hK7 _ _ _ ?_; clear hK7
    -- cond 2
    refine AW.cond rfl (by simp only [go_sem, reduceIte, reduceCtorEq, Nat.reduceAdd, Nat.reduceMul, Nat.reduceEqDiff, Nat.reduceLT, Nat.reduceLeDiff, Nat.reduceSub, Nat.reducePow, Nat.reduceBEq, Int.reduceToNat, List.reduceReplicate]) ?_ ?_
    · intro hb
      try simp only [hB, decide_eq_true_eq, decide_eq_false_iff_not] at hb
      refine AW.seq fun K8 hK8 => ?_
      -- region 5
      refine AW.regionK 0 (fun _ => none) [4] [] ?_
      simp only [go_sem, reduceIte, reduceCtorEq, Nat.reduceAdd, Nat.reduceMul, Nat.reduceEqDiff, Nat.reduceLT, Nat.reduceLeDiff, Nat.reduceSub, Nat.reducePow, Nat.reduceBEq, Int.reduceToNat, List.reduceReplicate, hpv]
      repeat with_reducible refine cj ?_ ?_
      all_goals try first | omega
      refine hK8 _ _ _ ?_; clear hK8
      refine AW.ret ?_
      rw [← hQl1]
      rw [← hQr]
      simp only [go_sem, reduceIte, reduceCtorEq, Nat.reduceAdd, Nat.reduceMul, Nat.reduceEqDiff, Nat.reduceLT, Nat.reduceLeDiff, Nat.reduceSub, Nat.reducePow, Nat.reduceBEq, Int.reduceToNat, List.reduceReplicate, hpv]
      exact Wk.of_eq (by subst hb; simp [List.mem_of_getElem? he])
    · intro hb
      try simp only [hB, decide_eq_true_eq, decide_eq_false_iff_not] at hb
      refine AW.skip ?_
      refine hK6 _ _ _ ?_; clear hK6
      -- region 3
      refine AW.regionK 0 (fun _ => none) [0, 3, 5] [3] ?_
      simp only [go_sem, reduceIte, reduceCtorEq, Nat.reduceAdd, Nat.reduceMul, Nat.reduceEqDiff, Nat.reduceLT, Nat.reduceLeDiff, Nat.reduceSub, Nat.reducePow, Nat.reduceBEq, Int.reduceToNat, List.reduceReplicate, hpv]
      repeat with_reducible refine cj ?_ ?_
      all_goals try first | omega
      rw [← hQl1]
      change Exists _
      refine ⟨_, ?hm, j + 1, ?_, ?_, rfl, ?henv, ?hstore, ?hst⟩
      case henv =>
        repeat' (first | rfl | refine env_cons ?_ ?_ | refine st_cons ?_ ?_ ?_ ?_ | refine int_eq ?_ | refine bool_eq ?_ | refine rsl_eq ?_ | refine osl_eq ?_ | refine sl_eq ?_ ?_ ?_ | refine ptr_eq ?_ ?_ ?_ | refine agg_eq ?_ | refine es_cons ?_ ?_ | refine row_cons ?_ ?_)
        all_goals (first | (simp; done) | omega | (simp; omega))
      case hstore =>
        repeat' (first | rfl | refine env_cons ?_ ?_ | refine st_cons ?_ ?_ ?_ ?_ | refine int_eq ?_ | refine bool_eq ?_ | refine rsl_eq ?_ | refine osl_eq ?_ | refine sl_eq ?_ ?_ ?_ | refine ptr_eq ?_ ?_ ?_ | refine agg_eq ?_ | refine es_cons ?_ ?_ | refine row_cons ?_ ?_)
        all_goals (first | (simp; done) | omega | (simp; omega))
      case hst =>
        exact ⟨by omega, by rw [hts]; intro hx; rcases List.mem_append.1 hx with h1 | h1; exact hno h1; simp only [List.mem_singleton] at h1; exact hb h1.symm⟩
      case hm => omega
  · intro hb
    try simp only [hB, decide_eq_true_eq, decide_eq_false_iff_not] at hb
    have hj2 : j = E.length := by omega
    rw [hj2, List.take_length] at hno
    refine AW.keep [] [] ?_
    try simp only [go_sem, reduceIte, reduceCtorEq, Nat.reduceAdd, Nat.reduceMul, Nat.reduceEqDiff, Nat.reduceLT, Nat.reduceLeDiff, Nat.reduceSub, Nat.reducePow, Nat.reduceBEq, Int.reduceToNat, List.reduceReplicate]
    refine AW.exit ?_
    rw [← hQl1]
    refine hK2 _ _ _ ?_; clear hK2
    refine AW.seq fun K9 hK9 => ?_
    -- region 6
    refine AW.regionK 0 (fun _ => none) [4] [] ?_
    simp only [go_sem, reduceIte, reduceCtorEq, Nat.reduceAdd, Nat.reduceMul, Nat.reduceEqDiff, Nat.reduceLT, Nat.reduceLeDiff, Nat.reduceSub, Nat.reducePow, Nat.reduceBEq, Int.reduceToNat, List.reduceReplicate, hpv]
    repeat with_reducible refine cj ?_ ?_
    all_goals try first | omega
    refine hK9 _ _ _ ?_; clear hK9
    refine AW.ret ?_
    rw [← hQr]
    simp only [go_sem, reduceIte, reduceCtorEq, Nat.reduceAdd, Nat.reduceMul, Nat.reduceEqDiff, Nat.reduceLT, Nat.reduceLeDiff, Nat.reduceSub, Nat.reducePow, Nat.reduceBEq, Int.reduceToNat, List.reduceReplicate, hpv]
    exact Wk.of_eq (by simp [hno])
end Go.Proofs.M

namespace Go.Proofs.M
open Go.AM Go
set_option maxRecDepth 100000
set_option maxHeartbeats 2000000
theorem bools_out {l : List Bool} {i : Nat} (h : l.length ≤ i) : (bools l).getD i [] = [] := Go.AM.getD_out (by rw [bools_len]; exact h) _
theorem ismat_r {n m : Nat} (hn : n ≤ 512) (hm : m ≤ 512) (E P : List (Int × Int)) (hE : ∀ e ∈ E, edgeIn n m e = true) (hlE : E.length ≤ 9223372036854775807) (hlP : P.length ≤ 9223372036854775807) :
    Reads Try.prog 18 false [.int .i64 n, .int .i64 m, .rsl 2 (E.map pairV), .rsl 2 (P.map pairV)] (.bool (isMat E P)) := by
  have hz1 : List.replicate n [AV.bool false] = bools (flagM (·.1) n []) := by rw [flagM_nil]; simp [bools]
  have hz2 : List.replicate m [AV.bool false] = bools (flagM (·.2) m []) := by rw [flagM_nil]; simp [bools]
  refine Reads.body (rs := [.tmp 8]) Try.func18 rfl Try.ntmps18 rfl (by simp) ?_
  generalize hQr : retQ _ _ _ = Qr
  refine AW.seq fun K1 hK1 => ?_
  -- region 0
  refine AW.regionK 0 (fun _ => none) [0, 1, 2, 3] [] ?_
  simp only [go_sem, reduceIte, reduceCtorEq, Nat.reduceAdd, Nat.reduceMul, Nat.reduceEqDiff, Nat.reduceLT, Nat.reduceLeDiff, Nat.reduceSub, Nat.reducePow, Nat.reduceBEq, Int.reduceToNat, List.reduceReplicate]
  repeat with_reducible refine cj ?_ ?_
  all_goals try first | omega
  refine hK1 _ _ _ ?_; clear hK1
  refine AW.seq fun K2 hK2 => ?_
  -- region 1
  refine AW.regionD mixed 0 (fun _ => none) [2, 3, 9, 10] [13, 15] ?_
  simp only [go_sem, reduceIte, reduceCtorEq, Nat.reduceAdd, Nat.reduceMul, Nat.reduceEqDiff, Nat.reduceLT, Nat.reduceLeDiff, Nat.reduceSub, Nat.reducePow, Nat.reduceBEq, Int.reduceToNat, List.reduceReplicate, hz1, hz2]
  repeat with_reducible refine cj ?_ ?_
  all_goals try first | omega | exact chk (by kernel_rfl)
  refine hK2 _ _ _ ?_; clear hK2
  refine AW.seq fun K3 hK3 => ?_
  refine AW.seq fun K4 hK4 => ?_
  -- region 2
  refine AW.regionK 0 (fun _ => none) [2, 3, 9, 10, 11] [13, 15] ?_
  simp only [go_sem, reduceIte, reduceCtorEq, Nat.reduceAdd, Nat.reduceMul, Nat.reduceEqDiff, Nat.reduceLT, Nat.reduceLeDiff, Nat.reduceSub, Nat.reducePow, Nat.reduceBEq, Int.reduceToNat, List.reduceReplicate]
  repeat with_reducible refine cj ?_ ?_
  all_goals try first | omega
  refine hK4 _ _ _ ?_; clear hK4
  refine AW.block ?_
  -- loop 1
  refine AW.loopE (fun mm ee ss kk => ∃ (j g1 v1 g2 v2 : Nat), P.length - j = mm ∧ ee = [(2, .rsl 2 (E.map pairV)), (3, .rsl 2 (P.map pairV)), (9, .sl ⟨13, g1, none⟩ 0 n none), (10, .sl ⟨15, g2, none⟩ 0 m none), (11, .int .i64 (j : Nat))] ∧ ss = [(13, some ⟨g1, v1, 1, bools (flagM (·.1) n (P.take j))⟩), (15, some ⟨g2, v2, 1, bools (flagM (·.2) m (P.take j))⟩)] ∧ (j ≤ P.length ∧ (∀ p ∈ P.take j, p ∈ E) ∧ ((P.take j).map (·.1)).Nodup ∧ ((P.take j).map (·.2)).Nodup)) ?_ ?_
  · refine ⟨_, 0, ?_, ?_, ?_, ?_, rfl, ?henv, ?hstore, ?hst⟩
    case henv =>
      repeat' (first | rfl | refine env_cons ?_ ?_ | refine st_cons ?_ ?_ ?_ ?_ | refine int_eq ?_ | refine bool_eq ?_ | refine rsl_eq ?_ | refine osl_eq ?_ | refine sl_eq ?_ ?_ ?_ | refine ptr_eq ?_ ?_ ?_ | refine agg_eq ?_ | refine es_cons ?_ ?_ | refine row_cons ?_ ?_)
      all_goals (first | (simp; done) | omega | (simp; omega))
    case hstore =>
      repeat' (first | rfl | refine env_cons ?_ ?_ | refine st_cons ?_ ?_ ?_ ?_ | refine int_eq ?_ | refine bool_eq ?_ | refine rsl_eq ?_ | refine osl_eq ?_ | refine sl_eq ?_ ?_ ?_ | refine ptr_eq ?_ ?_ ?_ | refine agg_eq ?_ | refine es_cons ?_ ?_ | refine row_cons ?_ ?_)
      all_goals (first | (simp; done) | omega | (simp; omega))
    case hst =>
      exact ⟨by omega, by simp, by simp, by simp⟩
  rintro mm ee ss kk ⟨j, g1, v1, g2, v2, rfl, rfl, rfl, hI⟩
  generalize hQl1 : thenQ _ _ = Ql1
  obtain ⟨hj, hin, hd1, hd2⟩ := hI
  have hA := flagM_len (·.1) n (P.take j)
  have hB2 := flagM_len (·.2) m (P.take j)
  refine AW.seq fun K5 hK5 => ?_
  refine AW.seq fun K6 hK6 => ?_
  -- region 3
  refine AW.regionK 0 (fun _ => none) [2, 3, 9, 10, 11, 19] [13, 15] ?_
  simp only [go_sem, reduceIte, reduceCtorEq, Nat.reduceAdd, Nat.reduceMul, Nat.reduceEqDiff, Nat.reduceLT, Nat.reduceLeDiff, Nat.reduceSub, Nat.reducePow, Nat.reduceBEq, Int.reduceToNat, List.reduceReplicate]
  repeat with_reducible refine cj ?_ ?_
  all_goals try first | omega
  refine hK6 _ _ _ ?_; clear hK6
  -- cond 1
  refine AW.cond rfl (by simp only [go_sem, reduceIte, reduceCtorEq, Nat.reduceAdd, Nat.reduceMul, Nat.reduceEqDiff, Nat.reduceLT, Nat.reduceLeDiff, Nat.reduceSub, Nat.reducePow, Nat.reduceBEq, Int.reduceToNat, List.reduceReplicate]) ?_ ?_
  · intro hb
    try simp only [hB, decide_eq_true_eq, decide_eq_false_iff_not] at hb
    obtain ⟨p, hp⟩ := getI (l := P) (j := j) (by omega)
    have hgp := getV (f := pairV) hp
    have hha := has_r E p hlE
    unfold pairV at hha
    have hpv : (fun p : Int × Int => [AV.int .i64 p.1, AV.int .i64 p.2]) = pairV := rfl
    rw [hpv] at hha
    have hts : P.take (j + 1) = P.take j ++ [p] := by rw [List.take_add_one, hp]; rfl
    have hgf1 := flagM_get (·.1) (n := n) (l := P.take j) (i := p.1)
    have hgf2 := flagM_get (·.2) (n := m) (l := P.take j) (i := p.2)
    have hs1 := flagM_snoc (·.1) (n := n) (l := P.take j) (p := p)
    have hs2 := flagM_snoc (·.2) (n := m) (l := P.take j) (p := p)
    have hcA : (0 ≤ p.1 ∧ p.1 < n ∧ (bools (flagM (·.1) n (P.take j))).getD p.1.toNat [] = [.bool ((P.take j).any fun q => decide (q.1 = p.1))]) ∨ ∃ X, (X = [] ∨ ∃ b, X = [AV.bool b]) ∧ (bools (flagM (·.1) n (P.take j))).getD p.1.toNat [] = X ∧ ¬ (0 ≤ p.1 ∧ p.1 < n) := by
      by_cases h : 0 ≤ p.1 ∧ p.1 < n
      · exact .inl ⟨h.1, h.2, by rw [bools_getD (by rw [hA]; omega), hgf1 h]⟩
      · right
        by_cases h2 : p.1.toNat < (flagM (·.1) n (P.take j)).length
        · exact ⟨_, .inr ⟨_, rfl⟩, bools_getD h2, h⟩
        · exact ⟨_, .inl rfl, bools_out (by omega), h⟩
    have hcB : (0 ≤ p.2 ∧ p.2 < m ∧ (bools (flagM (·.2) m (P.take j))).getD p.2.toNat [] = [.bool ((P.take j).any fun q => decide (q.2 = p.2))]) ∨ ∃ X, (X = [] ∨ ∃ b, X = [AV.bool b]) ∧ (bools (flagM (·.2) m (P.take j))).getD p.2.toNat [] = X ∧ ¬ (0 ≤ p.2 ∧ p.2 < m) := by
      by_cases h : 0 ≤ p.2 ∧ p.2 < m
      · exact .inl ⟨h.1, h.2, by rw [bools_getD (by rw [hB2]; omega), hgf2 h]⟩
      · right
        by_cases h2 : p.2.toNat < (flagM (·.2) m (P.take j)).length
        · exact ⟨_, .inr ⟨_, rfl⟩, bools_getD h2, h⟩
        · exact ⟨_, .inl rfl, bools_out (by omega), h⟩
    have hcase : (p ∈ E ∧ decide (p ∈ E) = true ∧ (0 ≤ p.1 ∧ p.1 < n ∧ 0 ≤ p.2 ∧ p.2 < m) ∧ (bools (flagM (·.1) n (P.take j))).getD p.1.toNat [] = [.bool ((P.take j).any fun q => decide (q.1 = p.1))] ∧ (bools (flagM (·.2) m (P.take j))).getD p.2.toNat [] = [.bool ((P.take j).any fun q => decide (q.2 = p.2))]) ∨
      (decide (p ∈ E) = false ∧ ∃ a b, (bools (flagM (·.1) n (P.take j))).getD p.1.toNat [] = [AV.bool a] ∧ (bools (flagM (·.2) m (P.take j))).getD p.2.toNat [] = [AV.bool b]) ∨
      (decide (p ∈ E) = false ∧ ∃ a, (bools (flagM (·.1) n (P.take j))).getD p.1.toNat [] = [AV.bool a] ∧ (bools (flagM (·.2) m (P.take j))).getD p.2.toNat [] = []) ∨
      (decide (p ∈ E) = false ∧ ∃ b, (bools (flagM (·.1) n (P.take j))).getD p.1.toNat [] = [] ∧ (bools (flagM (·.2) m (P.take j))).getD p.2.toNat [] = [AV.bool b]) ∨
      (decide (p ∈ E) = false ∧ (bools (flagM (·.1) n (P.take j))).getD p.1.toNat [] = [] ∧ (bools (flagM (·.2) m (P.take j))).getD p.2.toNat [] = []) := by
      by_cases hpe : p ∈ E
      · have hr := edgeIn_iff.1 (hE p hpe)
        refine .inl ⟨hpe, by simp [hpe], hr, ?_, ?_⟩
        · rw [bools_getD (by rw [hA]; omega), hgf1 (by omega)]
        · rw [bools_getD (by rw [hB2]; omega), hgf2 (by omega)]
      · have hd : decide (p ∈ E) = false := by simp [hpe]
        rcases hcA with ⟨_, _, h1⟩ | ⟨X, rfl | ⟨a, rfl⟩, h1, _⟩ <;> rcases hcB with ⟨_, _, h2⟩ | ⟨Y, rfl | ⟨b, rfl⟩, h2, _⟩
        · exact .inr (.inl ⟨hd, _, _, h1, h2⟩)
        · exact .inr (.inr (.inl ⟨hd, _, h1, h2⟩))
        · exact .inr (.inl ⟨hd, _, _, h1, h2⟩)
        · exact .inr (.inr (.inr (.inl ⟨hd, _, h1, h2⟩)))
        · exact .inr (.inr (.inr (.inr ⟨hd, h1, h2⟩)))
        · exact .inr (.inr (.inr (.inl ⟨hd, _, h1, h2⟩)))
        · exact .inr (.inl ⟨hd, _, _, h1, h2⟩)
        · exact .inr (.inr (.inl ⟨hd, _, h1, h2⟩))
        · exact .inr (.inl ⟨hd, _, _, h1, h2⟩)
    refine AW.skip ?_
    refine hK5 _ _ _ ?_; clear hK5
    refine AW.seq fun K7 hK7 => ?_
    refine AW.block ?_
    refine AW.seq fun K8 hK8 => ?_
    refine AW.seq fun K9 hK9 => ?_
    have hD5 : ∀  (kk : Nat), K9 [(2, .rsl 2 (E.map pairV)), (3, .rsl 2 (P.map pairV)), (9, .sl ⟨13, g1, none⟩ 0 n none), (10, .sl ⟨15, g2, none⟩ 0 m none), (11, .int .i64 (j : Nat)), (48, .bool (!decide (p ∈ E) || ((P.take j).any fun q => decide (q.1 = p.1)) || ((P.take j).any fun q => decide (q.2 = p.2))))] [(13, some ⟨g1, v1, 1, bools (flagM (·.1) n (P.take j))⟩), (15, some ⟨g2, v2, 1, bools (flagM (·.2) m (P.take j))⟩)] kk := by
      intro  kk
      refine hK9 _ _ _ ?_; clear hK9
      -- cond 2
      refine AW.cond rfl (by simp only [go_sem, reduceIte, reduceCtorEq, Nat.reduceAdd, Nat.reduceMul, Nat.reduceEqDiff, Nat.reduceLT, Nat.reduceLeDiff, Nat.reduceSub, Nat.reducePow, Nat.reduceBEq, Int.reduceToNat, List.reduceReplicate]) ?_ ?_
      · intro hb
        try simp only [hB, decide_eq_true_eq, decide_eq_false_iff_not] at hb
        refine AW.seq fun K12 hK12 => ?_
        -- region 6
        refine AW.regionK 0 (fun _ => none) [8] [] ?_
        simp only [go_sem, reduceIte, reduceCtorEq, Nat.reduceAdd, Nat.reduceMul, Nat.reduceEqDiff, Nat.reduceLT, Nat.reduceLeDiff, Nat.reduceSub, Nat.reducePow, Nat.reduceBEq, Int.reduceToNat, List.reduceReplicate]
        repeat with_reducible refine cj ?_ ?_
        all_goals try first | omega
        refine hK12 _ _ _ ?_; clear hK12
        refine AW.ret ?_
        rw [← hQl1]
        rw [← hQr]
        simp only [go_sem, reduceIte, reduceCtorEq, Nat.reduceAdd, Nat.reduceMul, Nat.reduceEqDiff, Nat.reduceLT, Nat.reduceLeDiff, Nat.reduceSub, Nat.reducePow, Nat.reduceBEq, Int.reduceToNat, List.reduceReplicate]
        have hnm : isMat E P = false := by
          have hpm := List.mem_of_getElem? hp
          by_cases hpe : p ∈ E
          · cases h1 : (P.take j).any fun q => decide (q.1 = p.1) with
            | true => have := map_not_nodup (f := (·.1)) hp h1; simp [isMat, this]
            | false => cases h2 : (P.take j).any fun q => decide (q.2 = p.2) with
              | true => have := map_not_nodup (f := (·.2)) hp h2; simp [isMat, this]
              | false => simp [hpe, h1, h2] at hb
          · have : (P.all fun p => decide (p ∈ E)) = false := by rw [List.all_eq_false]; exact ⟨p, hpm, by simp [hpe]⟩
            simp [isMat, this]
        exact Wk.of_eq (by rw [hnm])
      · intro hb
        try simp only [hB, decide_eq_true_eq, decide_eq_false_iff_not] at hb
        have hpe : p ∈ E := by
          by_cases h : p ∈ E
          · exact h
          · simp [h] at hb
        have hr := edgeIn_iff.1 (hE p hpe)
        have h1 : ((P.take j).any fun q => decide (q.1 = p.1)) = false := by cases h : (P.take j).any fun q => decide (q.1 = p.1) <;> first | rfl | simp [h] at hb
        have h2 : ((P.take j).any fun q => decide (q.2 = p.2)) = false := by cases h : (P.take j).any fun q => decide (q.2 = p.2) <;> first | rfl | simp [h] at hb
        have hu1 := bools_upd (flagM (·.1) n (P.take j)) p.1.toNat true
        have hu2 := bools_upd (flagM (·.2) m (P.take j)) p.2.toNat true
        have hs1' := hs1 (by omega)
        have hs2' := hs2 (by omega)
        rw [hs1', ← hts] at hu1
        rw [hs2', ← hts] at hu2
        refine AW.skip ?_
        refine hK8 _ _ _ ?_; clear hK8
        refine AW.seq fun K13 hK13 => ?_
        -- region 7
        refine AW.regionK 0 (fun _ => none) [2, 3, 9, 10, 11] [13, 15] ?_
        simp only [go_sem, reduceIte, reduceCtorEq, Nat.reduceAdd, Nat.reduceMul, Nat.reduceEqDiff, Nat.reduceLT, Nat.reduceLeDiff, Nat.reduceSub, Nat.reducePow, Nat.reduceBEq, Int.reduceToNat, List.reduceReplicate, hgp, pairV, bools_len, hA, hu1]
        repeat with_reducible refine cj ?_ ?_
        all_goals try first | omega
        refine hK13 _ _ _ ?_; clear hK13
        -- region 8
        refine AW.regionK 0 (fun _ => none) [2, 3, 9, 10, 11] [13, 15] ?_
        simp only [go_sem, reduceIte, reduceCtorEq, Nat.reduceAdd, Nat.reduceMul, Nat.reduceEqDiff, Nat.reduceLT, Nat.reduceLeDiff, Nat.reduceSub, Nat.reducePow, Nat.reduceBEq, Int.reduceToNat, List.reduceReplicate, hgp, pairV, bools_len, hB2, hu2]
        repeat with_reducible refine cj ?_ ?_
        all_goals try first | omega
        refine hK7 _ _ _ ?_; clear hK7
        -- region 4
        refine AW.regionK 0 (fun _ => none) [2, 3, 9, 10, 11] [13, 15] ?_
        simp only [go_sem, reduceIte, reduceCtorEq, Nat.reduceAdd, Nat.reduceMul, Nat.reduceEqDiff, Nat.reduceLT, Nat.reduceLeDiff, Nat.reduceSub, Nat.reducePow, Nat.reduceBEq, Int.reduceToNat, List.reduceReplicate]
        repeat with_reducible refine cj ?_ ?_
        all_goals try first | omega
        rw [← hQl1]
        change Exists _
        refine ⟨_, ?hm, j + 1, ?_, ?_, ?_, ?_, rfl, ?henv, ?hstore, ?hst⟩
        case henv =>
          repeat' (first | rfl | refine env_cons ?_ ?_ | refine st_cons ?_ ?_ ?_ ?_ | refine int_eq ?_ | refine bool_eq ?_ | refine rsl_eq ?_ | refine osl_eq ?_ | refine sl_eq ?_ ?_ ?_ | refine ptr_eq ?_ ?_ ?_ | refine agg_eq ?_ | refine es_cons ?_ ?_ | refine row_cons ?_ ?_)
          all_goals (first | (simp; done) | omega | (simp; omega))
        case hstore =>
          repeat' (first | rfl | refine env_cons ?_ ?_ | refine st_cons ?_ ?_ ?_ ?_ | refine int_eq ?_ | refine bool_eq ?_ | refine rsl_eq ?_ | refine osl_eq ?_ | refine sl_eq ?_ ?_ ?_ | refine ptr_eq ?_ ?_ ?_ | refine agg_eq ?_ | refine es_cons ?_ ?_ | refine row_cons ?_ ?_)
          all_goals (first | (simp; done) | omega | (simp; omega))
        case hst =>
          exact ⟨by omega, fun x hx => by rw [hts] at hx; rcases List.mem_append.1 hx with h | h; exact hin x h; simp only [List.mem_singleton] at h; subst h; exact hpe, by rw [hts]; exact map_nodup_snoc hd1 h1, by rw [hts]; exact map_nodup_snoc hd2 h2⟩
        case hm => omega
    rcases hcase with ⟨hpe, hdp, hr, hgA, hgB⟩ | ⟨hdp, a, b, hgA, hgB⟩ | ⟨hdp, a, hgA, hgB⟩ | ⟨hdp, b, hgA, hgB⟩ | ⟨hdp, hgA, hgB⟩
    · -- region 5
      refine AW.regionK 0 (fun ii => if ii = 5 then some (.reads false (.bool (decide (p ∈ E)))) else none) [2, 3, 9, 10, 11, 48] [13, 15] ?_
      simp only [go_sem, reduceIte, reduceCtorEq, Nat.reduceAdd, Nat.reduceMul, Nat.reduceEqDiff, Nat.reduceLT, Nat.reduceLeDiff, Nat.reduceSub, Nat.reducePow, Nat.reduceBEq, Int.reduceToNat, List.reduceReplicate, hgp, pairV, bools_len, hA, hB2, hdp, hgA, hgB]
      repeat with_reducible refine cj ?_ ?_
      all_goals try first | (first | (rw [hdp] at hha; exact hha) | (intro _; exact ⟨by omega, by omega⟩) | (intro _; omega) | (intros; (repeat' apply And.intro) <;> first | omega | trivial)) | (intros; (repeat' apply And.intro) <;> first | assumption | (first | (rw [hdp] at hha; exact hha) | (intro _; exact ⟨by omega, by omega⟩) | (intro _; omega) | (intros; (repeat' apply And.intro) <;> first | omega | trivial))) | omega | exact ent (by kernel_rfl) | (intro hgd; exact absurd hgd (by decide)) | rfl | (simp only [go_sem, reduceIte, reduceCtorEq, Nat.reduceAdd, Nat.reduceMul, Nat.reduceEqDiff, Nat.reduceLT, Nat.reduceLeDiff, Nat.reduceSub, Nat.reducePow, Nat.reduceBEq, Int.reduceToNat, List.reduceReplicate, hgp, pairV, bools_len, hA, hB2, hdp, hgA, hgB]; done) | (intro _hgd; simp_all [go_sem]; done)
      (have h5 := hD5; simp only [hdp, Bool.not_true, Bool.false_or] at h5; exact h5 _)
    · -- region 5
      refine AW.regionK 0 (fun ii => if ii = 5 then some (.reads false (.bool (decide (p ∈ E)))) else none) [2, 3, 9, 10, 11, 48] [13, 15] ?_
      simp only [go_sem, reduceIte, reduceCtorEq, Nat.reduceAdd, Nat.reduceMul, Nat.reduceEqDiff, Nat.reduceLT, Nat.reduceLeDiff, Nat.reduceSub, Nat.reducePow, Nat.reduceBEq, Int.reduceToNat, List.reduceReplicate, hgp, pairV, bools_len, hA, hB2, hdp, hgA, hgB]
      repeat with_reducible refine cj ?_ ?_
      all_goals try first | (first | (rw [hdp] at hha; exact hha) | (intro _; exact ⟨by omega, by omega⟩) | (intro _; omega) | (intros; (repeat' apply And.intro) <;> first | omega | trivial)) | (intros; (repeat' apply And.intro) <;> first | assumption | (first | (rw [hdp] at hha; exact hha) | (intro _; exact ⟨by omega, by omega⟩) | (intro _; omega) | (intros; (repeat' apply And.intro) <;> first | omega | trivial))) | omega | exact ent (by kernel_rfl) | (intro hgd; exact absurd hgd (by decide)) | rfl | (simp only [go_sem, reduceIte, reduceCtorEq, Nat.reduceAdd, Nat.reduceMul, Nat.reduceEqDiff, Nat.reduceLT, Nat.reduceLeDiff, Nat.reduceSub, Nat.reducePow, Nat.reduceBEq, Int.reduceToNat, List.reduceReplicate, hgp, pairV, bools_len, hA, hB2, hdp, hgA, hgB]; done) | (intro _hgd; simp_all [go_sem]; done)
      (have h5 := hD5; simp only [hdp, Bool.not_false, Bool.true_or] at h5; exact h5 _)
    · -- region 5
      refine AW.regionK 0 (fun ii => if ii = 5 then some (.reads false (.bool (decide (p ∈ E)))) else none) [2, 3, 9, 10, 11, 48] [13, 15] ?_
      simp only [go_sem, reduceIte, reduceCtorEq, Nat.reduceAdd, Nat.reduceMul, Nat.reduceEqDiff, Nat.reduceLT, Nat.reduceLeDiff, Nat.reduceSub, Nat.reducePow, Nat.reduceBEq, Int.reduceToNat, List.reduceReplicate, hgp, pairV, bools_len, hA, hB2, hdp, hgA, hgB]
      repeat with_reducible refine cj ?_ ?_
      all_goals try first | (first | (rw [hdp] at hha; exact hha) | (intro _; exact ⟨by omega, by omega⟩) | (intro _; omega) | (intros; (repeat' apply And.intro) <;> first | omega | trivial)) | (intros; (repeat' apply And.intro) <;> first | assumption | (first | (rw [hdp] at hha; exact hha) | (intro _; exact ⟨by omega, by omega⟩) | (intro _; omega) | (intros; (repeat' apply And.intro) <;> first | omega | trivial))) | omega | exact ent (by kernel_rfl) | (intro hgd; exact absurd hgd (by decide)) | rfl | (simp only [go_sem, reduceIte, reduceCtorEq, Nat.reduceAdd, Nat.reduceMul, Nat.reduceEqDiff, Nat.reduceLT, Nat.reduceLeDiff, Nat.reduceSub, Nat.reducePow, Nat.reduceBEq, Int.reduceToNat, List.reduceReplicate, hgp, pairV, bools_len, hA, hB2, hdp, hgA, hgB]; done) | (intro _hgd; simp_all [go_sem]; done)
      (have h5 := hD5; simp only [hdp, Bool.not_false, Bool.true_or] at h5; exact h5 _)
    · -- region 5
      refine AW.regionK 0 (fun ii => if ii = 5 then some (.reads false (.bool (decide (p ∈ E)))) else none) [2, 3, 9, 10, 11, 48] [13, 15] ?_
      simp only [go_sem, reduceIte, reduceCtorEq, Nat.reduceAdd, Nat.reduceMul, Nat.reduceEqDiff, Nat.reduceLT, Nat.reduceLeDiff, Nat.reduceSub, Nat.reducePow, Nat.reduceBEq, Int.reduceToNat, List.reduceReplicate, hgp, pairV, bools_len, hA, hB2, hdp, hgA, hgB]
      repeat with_reducible refine cj ?_ ?_
      all_goals try first | (first | (rw [hdp] at hha; exact hha) | (intro _; exact ⟨by omega, by omega⟩) | (intro _; omega) | (intros; (repeat' apply And.intro) <;> first | omega | trivial)) | (intros; (repeat' apply And.intro) <;> first | assumption | (first | (rw [hdp] at hha; exact hha) | (intro _; exact ⟨by omega, by omega⟩) | (intro _; omega) | (intros; (repeat' apply And.intro) <;> first | omega | trivial))) | omega | exact ent (by kernel_rfl) | (intro hgd; exact absurd hgd (by decide)) | rfl | (simp only [go_sem, reduceIte, reduceCtorEq, Nat.reduceAdd, Nat.reduceMul, Nat.reduceEqDiff, Nat.reduceLT, Nat.reduceLeDiff, Nat.reduceSub, Nat.reducePow, Nat.reduceBEq, Int.reduceToNat, List.reduceReplicate, hgp, pairV, bools_len, hA, hB2, hdp, hgA, hgB]; done) | (intro _hgd; simp_all [go_sem]; done)
      (have h5 := hD5; simp only [hdp, Bool.not_false, Bool.true_or] at h5; exact h5 _)
    · -- region 5
      refine AW.regionK 0 (fun ii => if ii = 5 then some (.reads false (.bool (decide (p ∈ E)))) else none) [2, 3, 9, 10, 11, 48] [13, 15] ?_
      simp only [go_sem, reduceIte, reduceCtorEq, Nat.reduceAdd, Nat.reduceMul, Nat.reduceEqDiff, Nat.reduceLT, Nat.reduceLeDiff, Nat.reduceSub, Nat.reducePow, Nat.reduceBEq, Int.reduceToNat, List.reduceReplicate, hgp, pairV, bools_len, hA, hB2, hdp, hgA, hgB]
      repeat with_reducible refine cj ?_ ?_
      all_goals try first | (first | (rw [hdp] at hha; exact hha) | (intro _; exact ⟨by omega, by omega⟩) | (intro _; omega) | (intros; (repeat' apply And.intro) <;> first | omega | trivial)) | (intros; (repeat' apply And.intro) <;> first | assumption | (first | (rw [hdp] at hha; exact hha) | (intro _; exact ⟨by omega, by omega⟩) | (intro _; omega) | (intros; (repeat' apply And.intro) <;> first | omega | trivial))) | omega | exact ent (by kernel_rfl) | (intro hgd; exact absurd hgd (by decide)) | rfl | (simp only [go_sem, reduceIte, reduceCtorEq, Nat.reduceAdd, Nat.reduceMul, Nat.reduceEqDiff, Nat.reduceLT, Nat.reduceLeDiff, Nat.reduceSub, Nat.reducePow, Nat.reduceBEq, Int.reduceToNat, List.reduceReplicate, hgp, pairV, bools_len, hA, hB2, hdp, hgA, hgB]; done) | (intro _hgd; simp_all [go_sem]; done)
      (have h5 := hD5; simp only [hdp, Bool.not_false, Bool.true_or] at h5; exact h5 _)
  · intro hb
    try simp only [hB, decide_eq_true_eq, decide_eq_false_iff_not] at hb
    have hj2 : j = P.length := by omega
    rw [hj2, List.take_length] at hin hd1 hd2
    have hal : (P.all fun p => decide (p ∈ E)) = true := List.all_eq_true.2 fun p hp => by simpa using hin p hp
    refine AW.keep [] [] ?_
    try simp only [go_sem, reduceIte, reduceCtorEq, Nat.reduceAdd, Nat.reduceMul, Nat.reduceEqDiff, Nat.reduceLT, Nat.reduceLeDiff, Nat.reduceSub, Nat.reducePow, Nat.reduceBEq, Int.reduceToNat, List.reduceReplicate]
    refine AW.exit ?_
    rw [← hQl1]
    refine hK3 _ _ _ ?_; clear hK3
    refine AW.seq fun K14 hK14 => ?_
    -- region 9
    refine AW.regionK 0 (fun _ => none) [8] [] ?_
    simp only [go_sem, reduceIte, reduceCtorEq, Nat.reduceAdd, Nat.reduceMul, Nat.reduceEqDiff, Nat.reduceLT, Nat.reduceLeDiff, Nat.reduceSub, Nat.reducePow, Nat.reduceBEq, Int.reduceToNat, List.reduceReplicate]
    repeat with_reducible refine cj ?_ ?_
    all_goals try first | omega
    refine hK14 _ _ _ ?_; clear hK14
    refine AW.ret ?_
    rw [← hQr]
    simp only [go_sem, reduceIte, reduceCtorEq, Nat.reduceAdd, Nat.reduceMul, Nat.reduceEqDiff, Nat.reduceLT, Nat.reduceLeDiff, Nat.reduceSub, Nat.reducePow, Nat.reduceBEq, Int.reduceToNat, List.reduceReplicate]
    exact Wk.of_eq (by rw [isMat, hal]; simp [hd1, hd2])
end Go.Proofs.M

namespace Go.Proofs.M
open Go.AM Go
set_option maxRecDepth 100000
set_option maxHeartbeats 2000000
theorem rising_r (P : List (Int × Int)) (hl : P.length ≤ 100000) (h : ∀ (i : Nat) (a b : Int × Int), P[i]? = some a → P[i + 1]? = some b → a.1 < b.1) : Reads Try.prog 17 false [.rsl 2 (P.map pairV)] (.bool true) := by
  refine Reads.body (rs := [.tmp 2]) Try.func17 rfl Try.ntmps17 rfl (by simp) ?_
  generalize hQr : retQ _ _ _ = Qr
  refine AW.seq fun K1 hK1 => ?_
  -- region 0
  refine AW.regionK 0 (fun _ => none) [0] [] ?_
  simp only [go_sem, reduceIte, reduceCtorEq, Nat.reduceAdd, Nat.reduceMul, Nat.reduceEqDiff, Nat.reduceLT, Nat.reduceLeDiff, Nat.reduceSub, Nat.reducePow, Nat.reduceBEq, Int.reduceToNat, List.reduceReplicate]
  repeat with_reducible refine cj ?_ ?_
  all_goals try first | omega
  refine hK1 _ _ _ ?_; clear hK1
  refine AW.seq fun K2 hK2 => ?_
  refine AW.seq fun K3 hK3 => ?_
  -- region 1
  refine AW.regionK 0 (fun _ => none) [0, 3] [] ?_
  simp only [go_sem, reduceIte, reduceCtorEq, Nat.reduceAdd, Nat.reduceMul, Nat.reduceEqDiff, Nat.reduceLT, Nat.reduceLeDiff, Nat.reduceSub, Nat.reducePow, Nat.reduceBEq, Int.reduceToNat, List.reduceReplicate]
  repeat with_reducible refine cj ?_ ?_
  all_goals try first | omega
  refine hK3 _ _ _ ?_; clear hK3
  refine AW.block ?_
  -- loop 1
  refine AW.loopE (fun mm ee ss kk => ∃ (j : Nat), P.length - j = mm ∧ ee = [(0, .rsl 2 (P.map pairV)), (3, .int .i64 ((j + 1 : Nat) : Int))] ∧ ss = [] ∧ (j ≤ P.length)) ?_ ?_
  · refine ⟨_, 0, rfl, ?henv, ?hstore, ?hst⟩
    case henv =>
      repeat' (first | rfl | refine env_cons ?_ ?_ | refine st_cons ?_ ?_ ?_ ?_ | refine int_eq ?_ | refine bool_eq ?_ | refine rsl_eq ?_ | refine osl_eq ?_ | refine sl_eq ?_ ?_ ?_ | refine ptr_eq ?_ ?_ ?_ | refine agg_eq ?_ | refine es_cons ?_ ?_ | refine row_cons ?_ ?_)
      all_goals (first | (simp; done) | omega | (simp; omega))
    case hstore =>
      repeat' (first | rfl | refine env_cons ?_ ?_ | refine st_cons ?_ ?_ ?_ ?_ | refine int_eq ?_ | refine bool_eq ?_ | refine rsl_eq ?_ | refine osl_eq ?_ | refine sl_eq ?_ ?_ ?_ | refine ptr_eq ?_ ?_ ?_ | refine agg_eq ?_ | refine es_cons ?_ ?_ | refine row_cons ?_ ?_)
      all_goals (first | (simp; done) | omega | (simp; omega))
    case hst =>
      first | trivial | omega | (simp; done) | (simp; omega)
  rintro mm ee ss kk ⟨j, rfl, rfl, rfl, hI⟩
  generalize hQl1 : thenQ _ _ = Ql1
  refine AW.seq fun K4 hK4 => ?_
  refine AW.seq fun K5 hK5 => ?_
  -- region 2
  refine AW.regionK 0 (fun _ => none) [0, 3, 7] [] ?_
  simp only [go_sem, reduceIte, reduceCtorEq, Nat.reduceAdd, Nat.reduceMul, Nat.reduceEqDiff, Nat.reduceLT, Nat.reduceLeDiff, Nat.reduceSub, Nat.reducePow, Nat.reduceBEq, Int.reduceToNat, List.reduceReplicate]
  repeat with_reducible refine cj ?_ ?_
  all_goals try first | omega
  refine hK5 _ _ _ ?_; clear hK5
  -- cond 1
  refine AW.cond rfl (by simp only [go_sem, reduceIte, reduceCtorEq, Nat.reduceAdd, Nat.reduceMul, Nat.reduceEqDiff, Nat.reduceLT, Nat.reduceLeDiff, Nat.reduceSub, Nat.reducePow, Nat.reduceBEq, Int.reduceToNat, List.reduceReplicate]) ?_ ?_
  · intro hb
    try simp only [hB, decide_eq_true_eq, decide_eq_false_iff_not] at hb
    obtain ⟨a, ha⟩ := getI (l := P) (j := j) (by omega)
    obtain ⟨b, hb2⟩ := getI (l := P) (j := j + 1) (by omega)
    have hga := getV (f := pairV) ha
    have hgb := getV (f := pairV) hb2
    have hab := h j a b ha hb2
    have e1 : ((j + 1 : Nat) : Int).toNat = j + 1 := by omega
    have e2 : (((j + 1 : Nat) : Int) - 1).toNat = j := by omega
    refine AW.skip ?_
    refine hK4 _ _ _ ?_; clear hK4
    refine AW.seq fun K6 hK6 => ?_
    refine AW.block ?_
    refine AW.seq fun K7 hK7 => ?_
    -- region 4
    refine AW.regionD mixed 0 (fun _ => none) [0, 3, 21] [] ?_
    simp only [go_sem, reduceIte, reduceCtorEq, Nat.reduceAdd, Nat.reduceMul, Nat.reduceEqDiff, Nat.reduceLT, Nat.reduceLeDiff, Nat.reduceSub, Nat.reducePow, Nat.reduceBEq, Int.reduceToNat, List.reduceReplicate, hga, hgb, pairV, e1, e2]
    repeat with_reducible refine cj ?_ ?_
    all_goals try first | omega | exact chk (by kernel_rfl)
    refine hK7 _ _ _ ?_; clear hK7
    -- cond 2
    refine AW.cond rfl (by simp only [go_sem, reduceIte, reduceCtorEq, Nat.reduceAdd, Nat.reduceMul, Nat.reduceEqDiff, Nat.reduceLT, Nat.reduceLeDiff, Nat.reduceSub, Nat.reducePow, Nat.reduceBEq, Int.reduceToNat, List.reduceReplicate]) ?_ ?_
    · intro hb
      try simp only [hB, decide_eq_true_eq, decide_eq_false_iff_not] at hb
      exfalso; omega
    · intro hb
      try simp only [hB, decide_eq_true_eq, decide_eq_false_iff_not] at hb
      refine AW.skip ?_
      refine hK6 _ _ _ ?_; clear hK6
      -- region 3
      refine AW.regionK 0 (fun _ => none) [0, 3] [] ?_
      simp only [go_sem, reduceIte, reduceCtorEq, Nat.reduceAdd, Nat.reduceMul, Nat.reduceEqDiff, Nat.reduceLT, Nat.reduceLeDiff, Nat.reduceSub, Nat.reducePow, Nat.reduceBEq, Int.reduceToNat, List.reduceReplicate]
      repeat with_reducible refine cj ?_ ?_
      all_goals try first | omega
      rw [← hQl1]
      change Exists _
      refine ⟨_, ?hm, j + 1, rfl, ?henv, ?hstore, ?hst⟩
      case henv =>
        repeat' (first | rfl | refine env_cons ?_ ?_ | refine st_cons ?_ ?_ ?_ ?_ | refine int_eq ?_ | refine bool_eq ?_ | refine rsl_eq ?_ | refine osl_eq ?_ | refine sl_eq ?_ ?_ ?_ | refine ptr_eq ?_ ?_ ?_ | refine agg_eq ?_ | refine es_cons ?_ ?_ | refine row_cons ?_ ?_)
        all_goals (first | (simp; done) | omega | (simp; omega))
      case hstore =>
        repeat' (first | rfl | refine env_cons ?_ ?_ | refine st_cons ?_ ?_ ?_ ?_ | refine int_eq ?_ | refine bool_eq ?_ | refine rsl_eq ?_ | refine osl_eq ?_ | refine sl_eq ?_ ?_ ?_ | refine ptr_eq ?_ ?_ ?_ | refine agg_eq ?_ | refine es_cons ?_ ?_ | refine row_cons ?_ ?_)
        all_goals (first | (simp; done) | omega | (simp; omega))
      case hst =>
        first | trivial | omega | (simp; done) | (simp; omega)
      case hm => omega
  · intro hb
    try simp only [hB, decide_eq_true_eq, decide_eq_false_iff_not] at hb
    refine AW.keep [] [] ?_
    try simp only [go_sem, reduceIte, reduceCtorEq, Nat.reduceAdd, Nat.reduceMul, Nat.reduceEqDiff, Nat.reduceLT, Nat.reduceLeDiff, Nat.reduceSub, Nat.reducePow, Nat.reduceBEq, Int.reduceToNat, List.reduceReplicate]
    refine AW.exit ?_
    rw [← hQl1]
    refine hK2 _ _ _ ?_; clear hK2
    refine AW.seq fun K8 hK8 => ?_
    -- region 6
    refine AW.regionK 0 (fun _ => none) [2] [] ?_
    simp only [go_sem, reduceIte, reduceCtorEq, Nat.reduceAdd, Nat.reduceMul, Nat.reduceEqDiff, Nat.reduceLT, Nat.reduceLeDiff, Nat.reduceSub, Nat.reducePow, Nat.reduceBEq, Int.reduceToNat, List.reduceReplicate]
    repeat with_reducible refine cj ?_ ?_
    all_goals try first | omega
    refine hK8 _ _ _ ?_; clear hK8
    refine AW.ret ?_
    rw [← hQr]
    simp only [go_sem, reduceIte, reduceCtorEq, Nat.reduceAdd, Nat.reduceMul, Nat.reduceEqDiff, Nat.reduceLT, Nat.reduceLeDiff, Nat.reduceSub, Nat.reducePow, Nat.reduceBEq, Int.reduceToNat, List.reduceReplicate]
    exact Wk.refl _
end Go.Proofs.M

namespace Go.Proofs.M
open Go.AM Go
set_option maxRecDepth 100000
set_option maxHeartbeats 2000000
theorem rsame_r (N : Int) (W : List Int) (hl : W.length ≤ 9223372036854775807) : Reads Try.prog 15 false [.agg [.int .i64 N, .rsl 1 (words W)], .agg [.int .i64 N, .rsl 1 (words W)]] (.bool true) := by
  refine Reads.body (rs := [.tmp 4]) Try.func15 rfl Try.ntmps15 rfl (by simp) ?_
  generalize hQr : retQ _ _ _ = Qr
  refine AW.seq fun K1 hK1 => ?_
  -- region 0
  refine AW.regionK 0 (fun _ => none) [2, 3] [2, 3] ?_
  simp only [go_sem, reduceIte, reduceCtorEq, Nat.reduceAdd, Nat.reduceMul, Nat.reduceEqDiff, Nat.reduceLT, Nat.reduceLeDiff, Nat.reduceSub, Nat.reducePow, Nat.reduceBEq, Int.reduceToNat, List.reduceReplicate]
  repeat with_reducible refine cj ?_ ?_
  all_goals try first | omega
  refine hK1 _ _ _ ?_; clear hK1
  refine AW.seq fun K2 hK2 => ?_
  refine AW.seq fun K3 hK3 => ?_
  -- region 1
  refine AW.regionK 0 (fun _ => none) [2, 3, 19] [2, 3] ?_
  simp only [go_sem, reduceIte, reduceCtorEq, Nat.reduceAdd, Nat.reduceMul, Nat.reduceEqDiff, Nat.reduceLT, Nat.reduceLeDiff, Nat.reduceSub, Nat.reducePow, Nat.reduceBEq, Int.reduceToNat, List.reduceReplicate]
  repeat with_reducible refine cj ?_ ?_
  all_goals try first | omega | (intros; (repeat' apply And.intro) <;> first | assumption | omega | decide) | (intro hgd; exact absurd hgd (by decide)) | rfl | (simp only [go_sem, reduceIte, reduceCtorEq, Nat.reduceAdd, Nat.reduceMul, Nat.reduceEqDiff, Nat.reduceLT, Nat.reduceLeDiff, Nat.reduceSub, Nat.reducePow, Nat.reduceBEq, Int.reduceToNat, List.reduceReplicate]; done) | (intro _hgd; simp_all [go_sem]; done)
  refine hK3 _ _ _ ?_; clear hK3
  -- cond 1
  refine AW.cond rfl (by simp only [go_sem, reduceIte, reduceCtorEq, Nat.reduceAdd, Nat.reduceMul, Nat.reduceEqDiff, Nat.reduceLT, Nat.reduceLeDiff, Nat.reduceSub, Nat.reducePow, Nat.reduceBEq, Int.reduceToNat, List.reduceReplicate]) ?_ ?_
  · intro hb
    try simp only [hB, decide_eq_true_eq, decide_eq_false_iff_not] at hb
    exfalso; simp at hb
  · intro hb
    try simp only [hB, decide_eq_true_eq, decide_eq_false_iff_not] at hb
    refine AW.skip ?_
    refine hK2 _ _ _ ?_; clear hK2
    refine AW.seq fun K4 hK4 => ?_
    refine AW.seq fun K5 hK5 => ?_
    -- region 3
    refine AW.regionK 0 (fun _ => none) [2, 3, 5] [2, 3] ?_
    simp only [go_sem, reduceIte, reduceCtorEq, Nat.reduceAdd, Nat.reduceMul, Nat.reduceEqDiff, Nat.reduceLT, Nat.reduceLeDiff, Nat.reduceSub, Nat.reducePow, Nat.reduceBEq, Int.reduceToNat, List.reduceReplicate]
    repeat with_reducible refine cj ?_ ?_
    all_goals try first | omega
    refine hK5 _ _ _ ?_; clear hK5
    refine AW.block ?_
    -- loop 1
    refine AW.loopE (fun mm ee ss kk => ∃ (i g2 v2 g3 v3 : Nat), W.length - i = mm ∧ ee = [(2, .ptr ⟨2, g2, none⟩ 0 0), (3, .ptr ⟨3, g3, none⟩ 0 0), (5, .int .i64 (i : Nat))] ∧ ss = [(2, some ⟨g2, v2, 2, [[.int .i64 N, .rsl 1 (words W)]]⟩), (3, some ⟨g3, v3, 2, [[.int .i64 N, .rsl 1 (words W)]]⟩)] ∧ (i ≤ W.length)) ?_ ?_
    · refine ⟨_, 0, ?_, ?_, ?_, ?_, rfl, ?henv, ?hstore, ?hst⟩
      case henv =>
        repeat' (first | rfl | refine env_cons ?_ ?_ | refine st_cons ?_ ?_ ?_ ?_ | refine int_eq ?_ | refine bool_eq ?_ | refine rsl_eq ?_ | refine osl_eq ?_ | refine sl_eq ?_ ?_ ?_ | refine ptr_eq ?_ ?_ ?_ | refine agg_eq ?_ | refine es_cons ?_ ?_ | refine row_cons ?_ ?_)
        all_goals (first | (simp; done) | omega | (simp; omega))
      case hstore =>
        repeat' (first | rfl | refine env_cons ?_ ?_ | refine st_cons ?_ ?_ ?_ ?_ | refine int_eq ?_ | refine bool_eq ?_ | refine rsl_eq ?_ | refine osl_eq ?_ | refine sl_eq ?_ ?_ ?_ | refine ptr_eq ?_ ?_ ?_ | refine agg_eq ?_ | refine es_cons ?_ ?_ | refine row_cons ?_ ?_)
        all_goals (first | (simp; done) | omega | (simp; omega))
      case hst =>
        first | trivial | omega | (simp; done) | (simp; omega)
    rintro mm ee ss kk ⟨i, g2, v2, g3, v3, rfl, rfl, rfl, hI⟩
    generalize hQl1 : thenQ _ _ = Ql1
    refine AW.seq fun K6 hK6 => ?_
    refine AW.seq fun K7 hK7 => ?_
    -- region 4
    refine AW.regionK 0 (fun _ => none) [2, 3, 5, 24] [2, 3] ?_
    simp only [go_sem, reduceIte, reduceCtorEq, Nat.reduceAdd, Nat.reduceMul, Nat.reduceEqDiff, Nat.reduceLT, Nat.reduceLeDiff, Nat.reduceSub, Nat.reducePow, Nat.reduceBEq, Int.reduceToNat, List.reduceReplicate]
    repeat with_reducible refine cj ?_ ?_
    all_goals try first | omega
    refine hK7 _ _ _ ?_; clear hK7
    -- cond 2
    refine AW.cond rfl (by simp only [go_sem, reduceIte, reduceCtorEq, Nat.reduceAdd, Nat.reduceMul, Nat.reduceEqDiff, Nat.reduceLT, Nat.reduceLeDiff, Nat.reduceSub, Nat.reducePow, Nat.reduceBEq, Int.reduceToNat, List.reduceReplicate]) ?_ ?_
    · intro hb
      try simp only [hB, decide_eq_true_eq, decide_eq_false_iff_not] at hb
      have hgw := words_getD (l := W) (i := i) (by omega)
      refine AW.skip ?_
      refine hK6 _ _ _ ?_; clear hK6
      refine AW.seq fun K8 hK8 => ?_
      refine AW.block ?_
      refine AW.seq fun K9 hK9 => ?_
      -- region 6
      refine AW.regionD mixed 0 (fun _ => none) [2, 3, 5, 37] [2, 3] ?_
      simp only [go_sem, reduceIte, reduceCtorEq, Nat.reduceAdd, Nat.reduceMul, Nat.reduceEqDiff, Nat.reduceLT, Nat.reduceLeDiff, Nat.reduceSub, Nat.reducePow, Nat.reduceBEq, Int.reduceToNat, List.reduceReplicate, hgw]
      repeat with_reducible refine cj ?_ ?_
      all_goals try first | omega | exact chk (by kernel_rfl)
      refine hK9 _ _ _ ?_; clear hK9
      -- cond 3
      refine AW.cond rfl (by simp only [go_sem, reduceIte, reduceCtorEq, Nat.reduceAdd, Nat.reduceMul, Nat.reduceEqDiff, Nat.reduceLT, Nat.reduceLeDiff, Nat.reduceSub, Nat.reducePow, Nat.reduceBEq, Int.reduceToNat, List.reduceReplicate]) ?_ ?_
      · intro hb
        try simp only [hB, decide_eq_true_eq, decide_eq_false_iff_not] at hb
        exfalso; simp at hb
      · intro hb
        try simp only [hB, decide_eq_true_eq, decide_eq_false_iff_not] at hb
        refine AW.skip ?_
        refine hK8 _ _ _ ?_; clear hK8
        -- region 5
        refine AW.regionK 0 (fun _ => none) [2, 3, 5] [2, 3] ?_
        simp only [go_sem, reduceIte, reduceCtorEq, Nat.reduceAdd, Nat.reduceMul, Nat.reduceEqDiff, Nat.reduceLT, Nat.reduceLeDiff, Nat.reduceSub, Nat.reducePow, Nat.reduceBEq, Int.reduceToNat, List.reduceReplicate]
        repeat with_reducible refine cj ?_ ?_
        all_goals try first | omega
        rw [← hQl1]
        change Exists _
        refine ⟨_, ?hm, i + 1, ?_, ?_, ?_, ?_, rfl, ?henv, ?hstore, ?hst⟩
        case henv =>
          repeat' (first | rfl | refine env_cons ?_ ?_ | refine st_cons ?_ ?_ ?_ ?_ | refine int_eq ?_ | refine bool_eq ?_ | refine rsl_eq ?_ | refine osl_eq ?_ | refine sl_eq ?_ ?_ ?_ | refine ptr_eq ?_ ?_ ?_ | refine agg_eq ?_ | refine es_cons ?_ ?_ | refine row_cons ?_ ?_)
          all_goals (first | (simp; done) | omega | (simp; omega))
        case hstore =>
          repeat' (first | rfl | refine env_cons ?_ ?_ | refine st_cons ?_ ?_ ?_ ?_ | refine int_eq ?_ | refine bool_eq ?_ | refine rsl_eq ?_ | refine osl_eq ?_ | refine sl_eq ?_ ?_ ?_ | refine ptr_eq ?_ ?_ ?_ | refine agg_eq ?_ | refine es_cons ?_ ?_ | refine row_cons ?_ ?_)
          all_goals (first | (simp; done) | omega | (simp; omega))
        case hst =>
          first | trivial | omega | (simp; done) | (simp; omega)
        case hm => omega
    · intro hb
      try simp only [hB, decide_eq_true_eq, decide_eq_false_iff_not] at hb
      refine AW.keep [] [] ?_
      try simp only [go_sem, reduceIte, reduceCtorEq, Nat.reduceAdd, Nat.reduceMul, Nat.reduceEqDiff, Nat.reduceLT, Nat.reduceLeDiff, Nat.reduceSub, Nat.reducePow, Nat.reduceBEq, Int.reduceToNat, List.reduceReplicate]
      refine AW.exit ?_
      rw [← hQl1]
      refine hK4 _ _ _ ?_; clear hK4
      refine AW.seq fun K10 hK10 => ?_
      -- region 8
      refine AW.regionK 0 (fun _ => none) [4] [] ?_
      simp only [go_sem, reduceIte, reduceCtorEq, Nat.reduceAdd, Nat.reduceMul, Nat.reduceEqDiff, Nat.reduceLT, Nat.reduceLeDiff, Nat.reduceSub, Nat.reducePow, Nat.reduceBEq, Int.reduceToNat, List.reduceReplicate]
      repeat with_reducible refine cj ?_ ?_
      all_goals try first | omega
      refine hK10 _ _ _ ?_; clear hK10
      refine AW.ret ?_
      rw [← hQr]
      simp only [go_sem, reduceIte, reduceCtorEq, Nat.reduceAdd, Nat.reduceMul, Nat.reduceEqDiff, Nat.reduceLT, Nat.reduceLeDiff, Nat.reduceSub, Nat.reducePow, Nat.reduceBEq, Int.reduceToNat, List.reduceReplicate]
      exact Wk.refl _
theorem rsame_nil (n : Int) : Reads Try.prog 15 false [.agg [.int .i64 n, .nilsl], .agg [.int .i64 n, .nilsl]] (.bool true) := by
  refine Reads.body (rs := [.tmp 4]) Try.func15 rfl Try.ntmps15 rfl (by simp) ?_
  generalize hQr : retQ _ _ _ = Qr
  refine AW.seq fun K1 hK1 => ?_
  -- region 0
  refine AW.regionK 0 (fun _ => none) [2, 3] [2, 3] ?_
  simp only [go_sem, reduceIte, reduceCtorEq, Nat.reduceAdd, Nat.reduceMul, Nat.reduceEqDiff, Nat.reduceLT, Nat.reduceLeDiff, Nat.reduceSub, Nat.reducePow, Nat.reduceBEq, Int.reduceToNat, List.reduceReplicate]
  repeat with_reducible refine cj ?_ ?_
  all_goals try first | omega
  refine hK1 _ _ _ ?_; clear hK1
  refine AW.seq fun K2 hK2 => ?_
  refine AW.seq fun K3 hK3 => ?_
  -- region 1
  refine AW.regionK 0 (fun _ => none) [2, 3, 19] [2, 3] ?_
  simp only [go_sem, reduceIte, reduceCtorEq, Nat.reduceAdd, Nat.reduceMul, Nat.reduceEqDiff, Nat.reduceLT, Nat.reduceLeDiff, Nat.reduceSub, Nat.reducePow, Nat.reduceBEq, Int.reduceToNat, List.reduceReplicate]
  repeat with_reducible refine cj ?_ ?_
  all_goals try first | omega | (intros; (repeat' apply And.intro) <;> first | assumption | omega | decide) | (intro hgd; exact absurd hgd (by decide)) | rfl | (simp only [go_sem, reduceIte, reduceCtorEq, Nat.reduceAdd, Nat.reduceMul, Nat.reduceEqDiff, Nat.reduceLT, Nat.reduceLeDiff, Nat.reduceSub, Nat.reducePow, Nat.reduceBEq, Int.reduceToNat, List.reduceReplicate]; done) | (intro _hgd; simp_all [go_sem]; done)
  refine hK3 _ _ _ ?_; clear hK3
  -- cond 1
  refine AW.cond rfl (by simp only [go_sem, reduceIte, reduceCtorEq, Nat.reduceAdd, Nat.reduceMul, Nat.reduceEqDiff, Nat.reduceLT, Nat.reduceLeDiff, Nat.reduceSub, Nat.reducePow, Nat.reduceBEq, Int.reduceToNat, List.reduceReplicate]) ?_ ?_
  · intro hb
    try simp only [hB, decide_eq_true_eq, decide_eq_false_iff_not] at hb
    exfalso; simp at hb
  · intro hb
    try simp only [hB, decide_eq_true_eq, decide_eq_false_iff_not] at hb
    refine AW.skip ?_
    refine hK2 _ _ _ ?_; clear hK2
    refine AW.seq fun K4 hK4 => ?_
    refine AW.seq fun K5 hK5 => ?_
    -- region 3
    refine AW.regionK 0 (fun _ => none) [2, 3, 5] [2, 3] ?_
    simp only [go_sem, reduceIte, reduceCtorEq, Nat.reduceAdd, Nat.reduceMul, Nat.reduceEqDiff, Nat.reduceLT, Nat.reduceLeDiff, Nat.reduceSub, Nat.reducePow, Nat.reduceBEq, Int.reduceToNat, List.reduceReplicate]
    repeat with_reducible refine cj ?_ ?_
    all_goals try first | omega
    refine hK5 _ _ _ ?_; clear hK5
    refine AW.block ?_
    -- loop 1
    refine AW.loopE (fun mm ee ss kk => ∃ (i g2 v2 g3 v3 : Nat), 0 + 1 = mm ∧ ee = [(2, .ptr ⟨2, g2, none⟩ 0 0), (3, .ptr ⟨3, g3, none⟩ 0 0), (5, .int .i64 (i : Nat))] ∧ ss = [(2, some ⟨g2, v2, 2, [[.int .i64 n, .nilsl]]⟩), (3, some ⟨g3, v3, 2, [[.int .i64 n, .nilsl]]⟩)] ∧ (i = 0)) ?_ ?_
    · refine ⟨_, 0, ?_, ?_, ?_, ?_, rfl, ?henv, ?hstore, ?hst⟩
      case henv =>
        repeat' (first | rfl | refine env_cons ?_ ?_ | refine st_cons ?_ ?_ ?_ ?_ | refine int_eq ?_ | refine bool_eq ?_ | refine rsl_eq ?_ | refine osl_eq ?_ | refine sl_eq ?_ ?_ ?_ | refine ptr_eq ?_ ?_ ?_ | refine agg_eq ?_ | refine es_cons ?_ ?_ | refine row_cons ?_ ?_)
        all_goals (first | (simp; done) | omega | (simp; omega))
      case hstore =>
        repeat' (first | rfl | refine env_cons ?_ ?_ | refine st_cons ?_ ?_ ?_ ?_ | refine int_eq ?_ | refine bool_eq ?_ | refine rsl_eq ?_ | refine osl_eq ?_ | refine sl_eq ?_ ?_ ?_ | refine ptr_eq ?_ ?_ ?_ | refine agg_eq ?_ | refine es_cons ?_ ?_ | refine row_cons ?_ ?_)
        all_goals (first | (simp; done) | omega | (simp; omega))
      case hst =>
        first | trivial | omega | (simp; done) | (simp; omega)
    rintro mm ee ss kk ⟨i, g2, v2, g3, v3, rfl, rfl, rfl, hI⟩
    generalize hQl1 : thenQ _ _ = Ql1
    refine AW.seq fun K6 hK6 => ?_
    refine AW.seq fun K7 hK7 => ?_
    -- region 4
    refine AW.regionK 0 (fun _ => none) [2, 3, 5, 24] [2, 3] ?_
    simp only [go_sem, reduceIte, reduceCtorEq, Nat.reduceAdd, Nat.reduceMul, Nat.reduceEqDiff, Nat.reduceLT, Nat.reduceLeDiff, Nat.reduceSub, Nat.reducePow, Nat.reduceBEq, Int.reduceToNat, List.reduceReplicate]
    repeat with_reducible refine cj ?_ ?_
    all_goals try first | omega
    refine hK7 _ _ _ ?_; clear hK7
    -- cond 2
    refine AW.cond rfl (by simp only [go_sem, reduceIte, reduceCtorEq, Nat.reduceAdd, Nat.reduceMul, Nat.reduceEqDiff, Nat.reduceLT, Nat.reduceLeDiff, Nat.reduceSub, Nat.reducePow, Nat.reduceBEq, Int.reduceToNat, List.reduceReplicate]) ?_ ?_
    · intro hb
      try simp only [hB, decide_eq_true_eq, decide_eq_false_iff_not] at hb
      exfalso; omega
    · intro hb
      try simp only [hB, decide_eq_true_eq, decide_eq_false_iff_not] at hb
      refine AW.keep [] [] ?_
      try simp only [go_sem, reduceIte, reduceCtorEq, Nat.reduceAdd, Nat.reduceMul, Nat.reduceEqDiff, Nat.reduceLT, Nat.reduceLeDiff, Nat.reduceSub, Nat.reducePow, Nat.reduceBEq, Int.reduceToNat, List.reduceReplicate]
      refine AW.exit ?_
      rw [← hQl1]
      refine hK4 _ _ _ ?_; clear hK4
      refine AW.seq fun K8 hK8 => ?_
      -- region 8
      refine AW.regionK 0 (fun _ => none) [4] [] ?_
      simp only [go_sem, reduceIte, reduceCtorEq, Nat.reduceAdd, Nat.reduceMul, Nat.reduceEqDiff, Nat.reduceLT, Nat.reduceLeDiff, Nat.reduceSub, Nat.reducePow, Nat.reduceBEq, Int.reduceToNat, List.reduceReplicate]
      repeat with_reducible refine cj ?_ ?_
      all_goals try first | omega
      refine hK8 _ _ _ ?_; clear hK8
      refine AW.ret ?_
      rw [← hQr]
      simp only [go_sem, reduceIte, reduceCtorEq, Nat.reduceAdd, Nat.reduceMul, Nat.reduceEqDiff, Nat.reduceLT, Nat.reduceLeDiff, Nat.reduceSub, Nat.reducePow, Nat.reduceBEq, Int.reduceToNat, List.reduceReplicate]
      exact Wk.refl _
end Go.Proofs.M

namespace Go.Proofs.M
open Go.AM Go
set_option maxRecDepth 100000
set_option maxHeartbeats 2000000
theorem rset_r (b : List Bool) (hl : b.length ≤ 100000) : Reads Try.prog 30 true [.rsl 1 (bools b)] (.agg [.int .i64 b.length, .rsl 1 (words (setW b b.length))]) := by
  have hwn := wordsN_rng (n := (b.length : Int)) (by omega)
  have hwe : ((b.length : Int) + 63).tdiv 64 = wordsN b.length := by unfold wordsN; congr 1; omega
  refine Reads.bodyF (rs := [.cell 2 30]) Try.func30 rfl Try.ntmps30 rfl (by simp) ?_
  generalize hQr : retQ _ _ _ = Qr
  refine AW.seq fun K1 hK1 => ?_
  -- region 0
  refine AW.regionK 0 (fun _ => none) [0, 2] [2] ?_
  simp only [go_sem, reduceIte, reduceCtorEq, Nat.reduceAdd, Nat.reduceMul, Nat.reduceEqDiff, Nat.reduceLT, Nat.reduceLeDiff, Nat.reduceSub, Nat.reducePow, Nat.reduceBEq, Int.reduceToNat, List.reduceReplicate]
  repeat with_reducible refine cj ?_ ?_
  all_goals try first | omega
  refine hK1 _ _ _ ?_; clear hK1
  refine AW.seq fun K2 hK2 => ?_
  -- region 1
  refine AW.regionK 0 (fun _ => none) [0, 2, 3] [2, 3, 11] ?_
  simp only [go_sem, reduceIte, reduceCtorEq, Nat.reduceAdd, Nat.reduceMul, Nat.reduceEqDiff, Nat.reduceLT, Nat.reduceLeDiff, Nat.reduceSub, Nat.reducePow, Nat.reduceBEq, Int.reduceToNat, List.reduceReplicate, hwe]
  repeat with_reducible refine cj ?_ ?_
  all_goals try first | omega
  refine hK2 _ _ _ ?_; clear hK2
  refine AW.seq fun K3 hK3 => ?_
  refine AW.seq fun K4 hK4 => ?_
  -- region 2
  refine AW.regionK 0 (fun _ => none) [0, 2, 3, 4] [2, 3, 11] ?_
  simp only [go_sem, reduceIte, reduceCtorEq, Nat.reduceAdd, Nat.reduceMul, Nat.reduceEqDiff, Nat.reduceLT, Nat.reduceLeDiff, Nat.reduceSub, Nat.reducePow, Nat.reduceBEq, Int.reduceToNat, List.reduceReplicate]
  repeat with_reducible refine cj ?_ ?_
  all_goals try first | omega
  refine hK4 _ _ _ ?_; clear hK4
  refine AW.block ?_
  -- loop 1
  refine AW.loopE (fun mm ee ss kk => ∃ (j g v gw vw g2 v2 : Nat) (c2 : List AV), b.length - j = mm ∧ ee = [(0, .rsl 1 (bools b)), (2, .ptr ⟨2, g2, none⟩ 0 0), (3, .ptr ⟨3, g, none⟩ 0 0), (4, .int .i64 (j : Nat))] ∧ ss = [(2, some ⟨g2, v2, 2, [[.int .i64 0, .nilsl]]⟩), (3, some ⟨g, v, 2, [[.int .i64 b.length, .sl ⟨11, gw, none⟩ 0 (wordsN b.length).toNat none]]⟩), (11, some ⟨gw, vw, 1, words (setW b j)⟩)] ∧ (j ≤ b.length)) ?_ ?_
  · refine ⟨_, 0, ?_, ?_, ?_, ?_, ?_, ?_, [], rfl, ?henv, ?hstore, ?hst⟩
    case henv =>
      repeat' (first | rfl | refine env_cons ?_ ?_ | refine st_cons ?_ ?_ ?_ ?_ | refine int_eq ?_ | refine bool_eq ?_ | refine rsl_eq ?_ | refine osl_eq ?_ | refine sl_eq ?_ ?_ ?_ | refine ptr_eq ?_ ?_ ?_ | refine agg_eq ?_ | refine es_cons ?_ ?_ | refine row_cons ?_ ?_)
      all_goals (first | (simp; done) | omega | (simp; omega))
    case hstore =>
      repeat' (first | rfl | refine env_cons ?_ ?_ | refine st_cons ?_ ?_ ?_ ?_ | refine int_eq ?_ | refine bool_eq ?_ | refine rsl_eq ?_ | refine osl_eq ?_ | refine sl_eq ?_ ?_ ?_ | refine ptr_eq ?_ ?_ ?_ | refine agg_eq ?_ | refine es_cons ?_ ?_ | refine row_cons ?_ ?_)
      all_goals simp [setW, words]
    case hst =>
      first | trivial | omega | (simp; done) | (simp; omega)
  rintro mm ee ss kk ⟨j, g, v, gw, vw, g2, v2, c2, rfl, rfl, rfl, hI⟩
  generalize hQl1 : thenQ _ _ = Ql1
  refine AW.seq fun K5 hK5 => ?_
  refine AW.seq fun K6 hK6 => ?_
  -- region 3
  refine AW.regionK 0 (fun _ => none) [0, 2, 3, 4, 16] [2, 3, 11] ?_
  simp only [go_sem, reduceIte, reduceCtorEq, Nat.reduceAdd, Nat.reduceMul, Nat.reduceEqDiff, Nat.reduceLT, Nat.reduceLeDiff, Nat.reduceSub, Nat.reducePow, Nat.reduceBEq, Int.reduceToNat, List.reduceReplicate]
  repeat with_reducible refine cj ?_ ?_
  all_goals try first | omega
  refine hK6 _ _ _ ?_; clear hK6
  -- cond 1
  refine AW.cond rfl (by simp only [go_sem, reduceIte, reduceCtorEq, Nat.reduceAdd, Nat.reduceMul, Nat.reduceEqDiff, Nat.reduceLT, Nat.reduceLeDiff, Nat.reduceSub, Nat.reducePow, Nat.reduceBEq, Int.reduceToNat, List.reduceReplicate]) ?_ ?_
  · intro hb
    try simp only [hB, decide_eq_true_eq, decide_eq_false_iff_not] at hb
    have hgb := bools_getD (l := b) (i := j) (by omega)
    have hwl := setW_len b j
    have hd := div64_rng (i := (j : Int)) (n := b.length) (by omega) (by omega)
    have hgw := words_getD (l := setW b j) (i := ((j : Int).tdiv 64).toNat) (by omega)
    have hsu := setW_succ b j
    refine AW.skip ?_
    refine hK5 _ _ _ ?_; clear hK5
    refine AW.seq fun K7 hK7 => ?_
    refine AW.block ?_
    refine AW.seq fun K8 hK8 => ?_
    -- region 5
    refine AW.regionK 0 (fun _ => none) [0, 2, 3, 4, 22] [2, 3, 11] ?_
    simp only [go_sem, reduceIte, reduceCtorEq, Nat.reduceAdd, Nat.reduceMul, Nat.reduceEqDiff, Nat.reduceLT, Nat.reduceLeDiff, Nat.reduceSub, Nat.reducePow, Nat.reduceBEq, Int.reduceToNat, List.reduceReplicate, hgb]
    repeat with_reducible refine cj ?_ ?_
    all_goals try first | omega
    refine hK8 _ _ _ ?_; clear hK8
    -- cond 2
    refine AW.cond rfl (by simp only [go_sem, reduceIte, reduceCtorEq, Nat.reduceAdd, Nat.reduceMul, Nat.reduceEqDiff, Nat.reduceLT, Nat.reduceLeDiff, Nat.reduceSub, Nat.reducePow, Nat.reduceBEq, Int.reduceToNat, List.reduceReplicate]) ?_ ?_
    · intro hb
      try simp only [hB, decide_eq_true_eq, decide_eq_false_iff_not] at hb
      rw [if_pos hb] at hsu
      -- region 6
      refine AW.regionD mixed 0 (fun _ => none) [0, 2, 3, 4] [2, 3, 11] ?_
      simp only [go_sem, reduceIte, reduceCtorEq, Nat.reduceAdd, Nat.reduceMul, Nat.reduceEqDiff, Nat.reduceLT, Nat.reduceLeDiff, Nat.reduceSub, Nat.reducePow, Nat.reduceBEq, Int.reduceToNat, List.reduceReplicate, hgw, hwl]
      repeat with_reducible refine cj ?_ ?_
      all_goals try first | omega | exact chk (by kernel_rfl)
      refine hK7 _ _ _ ?_; clear hK7
      -- region 4
      refine AW.regionK 0 (fun _ => none) [0, 2, 3, 4] [2, 3, 11] ?_
      simp only [go_sem, reduceIte, reduceCtorEq, Nat.reduceAdd, Nat.reduceMul, Nat.reduceEqDiff, Nat.reduceLT, Nat.reduceLeDiff, Nat.reduceSub, Nat.reducePow, Nat.reduceBEq, Int.reduceToNat, List.reduceReplicate]
      repeat with_reducible refine cj ?_ ?_
      all_goals try first | omega
      rw [← hQl1]
      change Exists _
      refine ⟨_, ?hm, j + 1, ?_, ?_, ?_, ?_, ?_, ?_, [], rfl, ?henv, ?hstore, ?hst⟩
      case henv =>
        repeat' (first | rfl | refine env_cons ?_ ?_ | refine st_cons ?_ ?_ ?_ ?_ | refine int_eq ?_ | refine bool_eq ?_ | refine rsl_eq ?_ | refine osl_eq ?_ | refine sl_eq ?_ ?_ ?_ | refine ptr_eq ?_ ?_ ?_ | refine agg_eq ?_ | refine es_cons ?_ ?_ | refine row_cons ?_ ?_)
        all_goals (first | (simp; done) | omega | (simp; omega))
      case hstore =>
        repeat' (first | rfl | refine env_cons ?_ ?_ | refine st_cons ?_ ?_ ?_ ?_ | refine int_eq ?_ | refine bool_eq ?_ | refine rsl_eq ?_ | refine osl_eq ?_ | refine sl_eq ?_ ?_ ?_ | refine ptr_eq ?_ ?_ ?_ | refine agg_eq ?_ | refine es_cons ?_ ?_ | refine row_cons ?_ ?_)
        all_goals (rw [hsu]; try simp [setBit])
      case hst =>
        first | trivial | omega | (simp; done) | (simp; omega)
      case hm => omega
    · intro hb
      try simp only [hB, decide_eq_true_eq, decide_eq_false_iff_not] at hb
      rw [if_neg (by rw [hb]; simp)] at hsu
      refine AW.skip ?_
      refine hK7 _ _ _ ?_; clear hK7
      -- region 4
      refine AW.regionK 0 (fun _ => none) [0, 2, 3, 4] [2, 3, 11] ?_
      simp only [go_sem, reduceIte, reduceCtorEq, Nat.reduceAdd, Nat.reduceMul, Nat.reduceEqDiff, Nat.reduceLT, Nat.reduceLeDiff, Nat.reduceSub, Nat.reducePow, Nat.reduceBEq, Int.reduceToNat, List.reduceReplicate]
      repeat with_reducible refine cj ?_ ?_
      all_goals try first | omega
      rw [← hQl1]
      change Exists _
      refine ⟨_, ?hm, j + 1, ?_, ?_, ?_, ?_, ?_, ?_, [], rfl, ?henv, ?hstore, ?hst⟩
      case henv =>
        repeat' (first | rfl | refine env_cons ?_ ?_ | refine st_cons ?_ ?_ ?_ ?_ | refine int_eq ?_ | refine bool_eq ?_ | refine rsl_eq ?_ | refine osl_eq ?_ | refine sl_eq ?_ ?_ ?_ | refine ptr_eq ?_ ?_ ?_ | refine agg_eq ?_ | refine es_cons ?_ ?_ | refine row_cons ?_ ?_)
        all_goals (first | (simp; done) | omega | (simp; omega))
      case hstore =>
        repeat' (first | rfl | refine env_cons ?_ ?_ | refine st_cons ?_ ?_ ?_ ?_ | refine int_eq ?_ | refine bool_eq ?_ | refine rsl_eq ?_ | refine osl_eq ?_ | refine sl_eq ?_ ?_ ?_ | refine ptr_eq ?_ ?_ ?_ | refine agg_eq ?_ | refine es_cons ?_ ?_ | refine row_cons ?_ ?_)
        all_goals (rw [hsu]; try simp [setBit])
      case hst =>
        first | trivial | omega | (simp; done) | (simp; omega)
      case hm => omega
  · intro hb
    try simp only [hB, decide_eq_true_eq, decide_eq_false_iff_not] at hb
    refine AW.keep [2, 3] [2, 3, 11] ?_
    try simp only [go_sem, reduceIte, reduceCtorEq, Nat.reduceAdd, Nat.reduceMul, Nat.reduceEqDiff, Nat.reduceLT, Nat.reduceLeDiff, Nat.reduceSub, Nat.reducePow, Nat.reduceBEq, Int.reduceToNat, List.reduceReplicate]
    refine AW.exit ?_
    rw [← hQl1]
    refine hK3 _ _ _ ?_; clear hK3
    refine AW.seq fun K9 hK9 => ?_
    -- region 7
    refine AW.regionK 0 (fun _ => none) [2] [2, 11] ?_
    simp only [go_sem, reduceIte, reduceCtorEq, Nat.reduceAdd, Nat.reduceMul, Nat.reduceEqDiff, Nat.reduceLT, Nat.reduceLeDiff, Nat.reduceSub, Nat.reducePow, Nat.reduceBEq, Int.reduceToNat, List.reduceReplicate]
    repeat with_reducible refine cj ?_ ?_
    all_goals try first | omega
    refine hK9 _ _ _ ?_; clear hK9
    refine AW.ret ?_
    rw [← hQr]
    simp only [go_sem, reduceIte, reduceCtorEq, Nat.reduceAdd, Nat.reduceMul, Nat.reduceEqDiff, Nat.reduceLT, Nat.reduceLeDiff, Nat.reduceSub, Nat.reducePow, Nat.reduceBEq, Int.reduceToNat, List.reduceReplicate]
    have hj : j = b.length := by omega
    subst hj
    rw [List.take_of_length_le (by rw [setW_len]; exact Nat.le_refl _)]
    exact Wk.refl _
end Go.Proofs.M

namespace Go.Proofs.M
open Go.AM Go
set_option maxRecDepth 100000
set_option maxHeartbeats 2000000
theorem great_r (n m : Int) (E : List (Int × Int)) (hl : E.length ≤ 9223372036854775807) : Reads Try.prog 10 false [.int .i64 n, .int .i64 m, .rsl 2 (E.map pairV)]
    (.bool (decide (60 < n) && decide (n ≤ 512) || decide (60 < m) && decide (m ≤ 512) || (decide (400 < (E.length : Int)) && decide ((E.length : Int) ≤ 2000)) || decide (2100 < (E.length : Int)))) := by
  refine Reads.body (rs := [.tmp 6]) Try.func10 rfl Try.ntmps10 rfl (by simp) ?_
  generalize hQr : retQ _ _ _ = Qr
  refine AW.seq fun K1 hK1 => ?_
  -- region 0
  refine AW.regionK 0 (fun _ => none) [0, 1, 2] [] ?_
  simp only [go_sem, reduceIte, reduceCtorEq, Nat.reduceAdd, Nat.reduceMul, Nat.reduceEqDiff, Nat.reduceLT, Nat.reduceLeDiff, Nat.reduceSub, Nat.reducePow, Nat.reduceBEq, Int.reduceToNat, List.reduceReplicate]
  repeat with_reducible refine cj ?_ ?_
  all_goals try first | omega
  refine hK1 _ _ _ ?_; clear hK1
  refine AW.seq fun K2 hK2 => ?_
  -- region 1
  refine AW.regionK 0 (fun _ => none) [6] [] ?_
  simp only [go_sem, reduceIte, reduceCtorEq, Nat.reduceAdd, Nat.reduceMul, Nat.reduceEqDiff, Nat.reduceLT, Nat.reduceLeDiff, Nat.reduceSub, Nat.reducePow, Nat.reduceBEq, Int.reduceToNat, List.reduceReplicate]
  repeat with_reducible refine cj ?_ ?_
  all_goals try first | omega | (intros; (repeat' apply And.intro) <;> first | assumption | omega | decide) | (intro hgd; exact absurd hgd (by decide)) | rfl | (simp only [go_sem, reduceIte, reduceCtorEq, Nat.reduceAdd, Nat.reduceMul, Nat.reduceEqDiff, Nat.reduceLT, Nat.reduceLeDiff, Nat.reduceSub, Nat.reducePow, Nat.reduceBEq, Int.reduceToNat, List.reduceReplicate]; done) | (intro _hgd; simp_all [go_sem]; done)
  refine hK2 _ _ _ ?_; clear hK2
  refine AW.ret ?_
  rw [← hQr]
  simp only [go_sem, reduceIte, reduceCtorEq, Nat.reduceAdd, Nat.reduceMul, Nat.reduceEqDiff, Nat.reduceLT, Nat.reduceLeDiff, Nat.reduceSub, Nat.reducePow, Nat.reduceBEq, Int.reduceToNat, List.reduceReplicate]
  exact Wk.of_eq (by simp)
end Go.Proofs.M

/- What the search for an alternating path does to a matching. -/
namespace Go.AM
def gi (l : List Int) (i : Nat) : Int := l.getD i (-1)
theorem gi_eq {l : List Int} {i : Nat} (h : i < l.length) : l.getD i 0 = gi l i := by
  simp [gi, List.getD_eq_getElem?_getD, h]
theorem gi_set (l : List Int) (i k : Nat) (x : Int) : gi (l.set i x) k = if i = k ∧ i < l.length then x else gi l k := by
  unfold gi
  by_cases h : i = k
  · subst h
    by_cases h2 : i < l.length
    · rw [Go.AM.getD_set_eq h2, if_pos ⟨rfl, h2⟩]
    · rw [List.set_eq_of_length_le (by omega), if_neg (by omega)]
  · rw [Go.AM.getD_set_ne (by omega), if_neg (by omega)]
theorem gi_mem {l : List Int} {i : Nat} (h : i < l.length) : gi l i ∈ l := mem_getD h _
def sg (s : List Bool) (r : Nat) : Prop := s.getD r false = true
theorem sg_set (s : List Bool) (i k : Nat) (h : i < s.length) : sg (s.set i true) k ↔ i = k ∨ sg s k := by
  unfold sg
  by_cases e : i = k
  · subst e; rw [Go.AM.getD_set_eq h]; simp
  · rw [Go.AM.getD_set_ne (by omega)]; simp [e]
abbrev nbl (nb : List (List Int)) (l : Nat) : List Int := nb.getD l []
def Cn (L R : List Int) : Prop := ∀ l r : Nat, gi L l = (r : Int) ↔ gi R r = (l : Int)
def Ed (nb : List (List Int)) (L : List Int) : Prop := ∀ l, 0 ≤ gi L l → gi L l ∈ nbl nb l
structure Suc (nb : List (List Int)) (s : List Bool) (L R : List Int) (l : Nat) (L' R' : List Int) : Prop where
  p1 : ∀ l' r : Nat, l' ≠ l → (gi L' l' = (r : Int) ↔ gi R' r = (l' : Int))
  p2 : ∃ q : Nat, ¬ sg s q ∧ (q : Int) ∈ nbl nb l ∧ gi L' l = q ∧ gi R' q = l ∧ ∀ r : Nat, gi R' r = l → r = q ∨ gi R r = l
  p3 : ∀ r, sg s r → gi R' r = gi R r
  p4 : ∀ l', l' ≠ l → (∀ r : Nat, gi R r = (l' : Int) → sg s r) → gi L' l' = gi L l'
  p5 : ∀ l', l' ≠ l → (0 ≤ gi L l' ↔ 0 ≤ gi L' l')
  p6 : ∀ r, 0 ≤ gi R r → 0 ≤ gi R' r
  p7 : Ed nb L'
structure Fai (nb : List (List Int)) (R : List Int) (row : List Int) (s s' : List Bool) : Prop where
  q1 : ∀ r, sg s r → sg s' r
  q2 : ∀ r, sg s' r → sg s r ∨ (0 ≤ gi R r ∧ ∀ x ∈ nbl nb (gi R r).toNat, sg s' x.toNat)
  q3 : ∀ x ∈ row, sg s' x.toNat
theorem Suc.mono {nb : List (List Int)} {s s2 : List Bool} {L R L' R' : List Int} {l : Nat} (h : Suc nb s2 L R l L' R') (hs : ∀ r, sg s r → sg s2 r) : Suc nb s L R l L' R' :=
  ⟨h.p1, by obtain ⟨q, h1, h2⟩ := h.p2; exact ⟨q, fun h => h1 (hs q h), h2⟩, fun r hr => h.p3 r (hs r hr), fun l' hl hr => h.p4 l' hl fun r e => hs r (hr r e), h.p5, h.p6, h.p7⟩
def FS (n m : Nat) (nb : List (List Int)) (fu : Nat) (f : Int → List Bool → List Int → List Int → Bool × MSt) : Prop :=
  ∀ (l : Nat) s L R b s' L' R', uns s < fu → l < n → MOk n m nb s L R → Cn L R → Ed nb L → (∀ r : Nat, gi R r = (l : Int) → sg s r) → f (l : Int) s L R = (b, s', L', R') →
    (b = true → Suc nb s L R l L' R') ∧ (b = false → L' = L ∧ R' = R ∧ Fai nb R (nbl nb l) s s')
theorem mgo_spec {n m : Nat} {nb : List (List Int)} {fu : Nat} {f : Int → List Bool → List Int → List Int → Bool × MSt} (hf : FS n m nb fu f) (hk : ∀ l s L R, l < (n : Int) → MOk n m nb s L R → MKeep n m nb s (f l s L R)) {l : Nat} (hl : l < n) :
    ∀ (rs : List Int) (s : List Bool) (L R : List Int) (b : Bool) (s' : List Bool) (L' R' : List Int), uns s < fu + 1 → MOk n m nb s L R → Cn L R → Ed nb L → (∀ r : Nat, gi R r = (l : Int) → sg s r) → (∀ r ∈ rs, r ∈ nbl nb l) → mgo f (l : Int) rs s L R = (b, s', L', R') →
    (b = true → Suc nb s L R l L' R') ∧ (b = false → L' = L ∧ R' = R ∧ Fai nb R rs s s')
  | [], s, L, R, b, s', L', R', _, _, _, _, _, _, h => by
    simp only [mgo, Prod.mk.injEq] at h
    obtain ⟨rfl, rfl, rfl, rfl⟩ := h
    exact ⟨fun h => (by cases h), fun _ => ⟨rfl, rfl, ⟨fun r h => h, fun r h => .inl h, fun x hx => by cases hx⟩⟩⟩
  | r :: rs, s, L, R, b, s', L', R', hu, hok, hC, hE, hst, hrs, h => by
    have hrs2 : ∀ r ∈ rs, r ∈ nbl nb l := fun x hx => hrs x (by simp [hx])
    have hrn := hrs r (by simp)
    have hrm : 0 ≤ r ∧ r < (m : Int) := by
      refine hok.hnb.2 (nbl nb l) (mem_getD (by rw [hok.hnb.1]; exact hl) []) r hrn
    obtain ⟨q, rfl⟩ : ∃ q : Nat, r = (q : Int) := ⟨r.toNat, by omega⟩
    have hqm : q < m := by omega
    have hsl := hok.hs
    have hRl := hok.hR.1
    have hLl := hok.hL.1
    unfold mgo at h
    simp only [Int.toNat_natCast] at h
    by_cases hs : s.getD q false = true
    · rw [if_pos hs] at h
      obtain ⟨h1, h2⟩ := mgo_spec hf hk hl rs s L R b s' L' R' hu hok hC hE hst hrs2 h
      refine ⟨h1, fun hb => ?_⟩
      obtain ⟨e1, e2, h3⟩ := h2 hb
      refine ⟨e1, e2, ⟨h3.q1, h3.q2, fun x hx => ?_⟩⟩
      rcases List.mem_cons.1 hx with rfl | hx
      · exact h3.q1 _ hs
      · exact h3.q3 x hx
    · rw [if_neg hs] at h
      have hns : ¬ sg s q := hs
      have hmk := mstep_keep hk hrm hok (by rw [Int.toNat_natCast]; simpa using hs)
      have hss := sg_set s q
      unfold mstep at h hmk
      rw [Int.toNat_natCast, gi_eq (by omega)] at h hmk
      by_cases hR : gi R q < 0
      · rw [if_pos hR] at h
        simp only [Prod.mk.injEq] at h
        obtain ⟨rfl, rfl, rfl, rfl⟩ := h
        refine ⟨fun _ => ?_, fun h => by cases h⟩
        try simp only [Int.toNat_natCast]
        refine ⟨fun l' r hl' => ?_, ⟨q, hns, hrn, ?_, ?_, fun r hr => ?_⟩, fun r hr => ?_, fun l' hl' _ => ?_, fun l' hl' => ?_, fun r hr => ?_, fun l' hl' => ?_⟩
        · rw [gi_set, if_neg (by omega), gi_set]
          by_cases e : q = r
          · subst e
            rw [if_pos (by omega)]
            have := hC l' q
            constructor <;> intro h2
            · have := this.1 h2; omega
            · omega
          · rw [if_neg (by omega)]; exact hC l' r
        · rw [gi_set, if_pos (by omega)]
        · rw [gi_set, if_pos (by omega)]
        · rw [gi_set] at hr
          by_cases e : q = r
          · exact .inl e.symm
          · rw [if_neg (by omega)] at hr; exact .inr hr
        · rw [gi_set, if_neg (show ¬ (q = r ∧ _) from fun e => hns (e.1 ▸ hr))]
        · rw [gi_set, if_neg (by omega)]
        · rw [gi_set, if_neg (by omega)]
        · rw [gi_set]; split <;> omega
        · rw [gi_set] at hl' ⊢
          split at hl'
          · rename_i e; rw [if_pos e, ← e.1]; exact hrn
          · rename_i e; rw [if_neg e]; exact hE l' hl'
      · rw [if_neg hR] at h hmk
        obtain ⟨l2, hl2⟩ : ∃ l2 : Nat, gi R q = (l2 : Int) := ⟨(gi R q).toNat, by omega⟩
        have hl2n : l2 < n := by
          have := hok.hR.2 (gi R q) (gi_mem (by omega)); omega
        rw [hl2] at h hmk
        have hLl2 := (hC l2 q).2 hl2
        have huq : ∀ r : Nat, gi R r = (l2 : Int) → r = q := fun r hr => by
          have := (hC l2 r).2 hr; omega
        have hne : l2 ≠ l := fun e => hns (hst q (by rw [hl2, e]))
        have hu2 := uns_set (s := s) (i := q) (by omega) (by simpa using hs)
        obtain ⟨⟨b2, s2, L2, R2⟩, hx⟩ : ∃ x, f (l2 : Int) (s.set q true) L R = x := ⟨_, rfl⟩
        have hsp := hf l2 (s.set q true) L R b2 s2 L2 R2 (by omega) hl2n (hok.seen q) hC hE (fun r hr => by rw [huq r hr]; exact (hss q (by omega)).2 (.inl rfl)) hx
        rw [hx] at h hmk
        simp only at hmk
        cases b2 with
        | true =>
          simp only [Prod.mk.injEq, Int.toNat_natCast] at h
          obtain ⟨rfl, rfl, rfl, rfl⟩ := h
          refine ⟨fun _ => ?_, fun h => by cases h⟩
          have hS := hsp.1 rfl
          have hR2l := hmk.1.hR.1
          have hL2l := hmk.1.hL.1
          obtain ⟨z, hz1, hz2, hz3, hz4, hz5⟩ := hS.p2
          have hzq : z ≠ q := fun e => hz1 ((hss z (by omega)).2 (.inl e.symm))
          have hRq : gi R2 q = (l2 : Int) := by rw [hS.p3 q ((hss q (by omega)).2 (.inl rfl)), hl2]
          have hLk : gi L2 l = gi L l := hS.p4 l (fun e => hne e.symm) fun r hr => (hss r (by omega)).2 (.inr (hst r hr))
          refine ⟨fun l' r hl' => ?_, ⟨q, hns, hrn, ?_, ?_, fun r hr => ?_⟩, fun r hr => ?_, fun l' hl' hr => ?_, fun l' hl' => ?_, fun r hr => ?_, fun l' hl' => ?_⟩
          · rw [gi_set, if_neg (by omega), gi_set]
            by_cases e2 : l' = l2
            · subst e2
              by_cases e : q = r
              · subst e
                rw [if_pos (by omega)]
                constructor <;> intro h2 <;> omega
              · rw [if_neg (by omega)]
                constructor
                · intro h2
                  have : r = z := by omega
                  subst this; exact hz4
                · intro h2
                  rcases hz5 r h2 with h3 | h3
                  · subst h3; exact hz3
                  · exact absurd (huq r h3).symm e
            · have h1 := hS.p1 l' r e2
              by_cases e : q = r
              · subst e
                rw [if_pos (by omega)]
                constructor <;> intro h2
                · have := h1.1 h2; omega
                · omega
              · rw [if_neg (by omega)]; exact h1
          · rw [gi_set, if_pos (by omega)]
          · rw [gi_set, if_pos (by omega)]
          · rw [gi_set] at hr
            by_cases e : q = r
            · exact .inl e.symm
            · rw [if_neg (by omega)] at hr
              have h1 := (hS.p1 l r (fun e => hne e.symm)).2 hr
              rw [hLk] at h1
              exact .inr ((hC l r).1 h1)
          · rw [gi_set, if_neg (show ¬ (q = r ∧ _) from fun e => hns (e.1 ▸ hr))]
            exact hS.p3 r ((hss r (by omega)).2 (.inr hr))
          · rw [gi_set, if_neg (by omega)]
            by_cases e2 : l' = l2
            · subst e2
              exact absurd (hr q hl2) hns
            · exact hS.p4 l' e2 fun r hr2 => (hss r (by omega)).2 (.inr (hr r hr2))
          · rw [gi_set, if_neg (by omega)]
            by_cases e2 : l' = l2
            · subst e2; omega
            · exact hS.p5 l' e2
          · rw [gi_set]; split
            · omega
            · exact hS.p6 r hr
          · rw [gi_set] at hl' ⊢
            split at hl'
            · rename_i e; rw [if_pos e, ← e.1]; exact hrn
            · rename_i e; rw [if_neg e]; exact hS.p7 l' hl'
        | false =>
          simp only at h
          obtain ⟨rfl, rfl, hF⟩ := hsp.2 rfl
          have hm1 : ∀ r, sg s r → sg s2 r := fun r hr => hF.q1 r ((hss r (by omega)).2 (.inr hr))
          have hsq : sg s2 q := hF.q1 q ((hss q (by omega)).2 (.inl rfl))
          obtain ⟨h1, h2⟩ := mgo_spec hf hk hl rs s2 L2 R2 b s' L' R' (by omega) hmk.1 hC hE (fun r hr => hm1 r (hst r hr)) hrs2 h
          refine ⟨fun hb => (h1 hb).mono hm1, fun hb => ?_⟩
          obtain ⟨e1, e2, h3⟩ := h2 hb
          refine ⟨e1, e2, ⟨fun r hr => h3.q1 r (hm1 r hr), fun r hr => ?_, fun x hx => ?_⟩⟩
          · rcases h3.q2 r hr with h4 | h4
            · rcases hF.q2 r h4 with h5 | ⟨h5, h6⟩
              · rcases (hss r (by omega)).1 h5 with h7 | h7
                · subst h7
                  refine .inr ⟨by omega, fun x hx => h3.q1 _ (hF.q3 x ?_)⟩
                  rw [hl2, Int.toNat_natCast] at hx
                  exact hx
                · exact .inl h7
              · exact .inr ⟨h5, fun x hx => h3.q1 _ (h6 x hx)⟩
            · exact .inr h4
          · rcases List.mem_cons.1 hx with rfl | hx
            · exact h3.q1 _ (by rw [Int.toNat_natCast]; exact hsq)
            · exact h3.q3 x hx
theorem mtry_spec {n m : Nat} {nb : List (List Int)} : ∀ fu, FS n m nb fu (mtry nb fu)
  | 0 => fun l s L R b s' L' R' hu => by omega
  | fu + 1 => fun l s L R b s' L' R' hu hl hok hC hE hst h => by
    unfold mtry at h
    rw [Int.toNat_natCast] at h
    exact mgo_spec (mtry_spec fu) (fun l s L R => mtry_keep fu l s L R) hl _ s L R b s' L' R' hu hok hC hE hst (fun r hr => hr) h

/-- A set of right nodes that no alternating path leaves. -/
def Tcl (nb : List (List Int)) (R : List Int) (T : Nat → Prop) : Prop := ∀ r, T r → 0 ≤ gi R r ∧ ∀ x ∈ nbl nb (gi R r).toNat, T x.toNat
def TS (n m : Nat) (nb : List (List Int)) (f : Int → List Bool → List Int → List Int → Bool × MSt) (T : Nat → Prop) : Prop :=
  ∀ (l : Nat) s L R b s' L' R', l < n → MOk n m nb s L R → Tcl nb R T → f (l : Int) s L R = (b, s', L', R') → ((∀ r ∈ nbl nb l, T r.toNat) → b = false) ∧ ∀ r, T r → gi R' r = gi R r
theorem Tcl.same {nb : List (List Int)} {R R' : List Int} {T : Nat → Prop} (h : Tcl nb R T) (e : ∀ r, T r → gi R' r = gi R r) : Tcl nb R' T := fun r hr => by
  rw [e r hr]; exact h r hr
theorem mgo_T {n m : Nat} {nb : List (List Int)} {f : Int → List Bool → List Int → List Int → Bool × MSt} {T : Nat → Prop} (hf : TS n m nb f T) (hk : ∀ l s L R, l < (n : Int) → MOk n m nb s L R → MKeep n m nb s (f l s L R)) {l : Nat} (hl : l < n) :
    ∀ (rs : List Int) (s : List Bool) (L R : List Int) (b : Bool) (s' : List Bool) (L' R' : List Int), MOk n m nb s L R → Tcl nb R T → (∀ r ∈ rs, r ∈ nbl nb l) → mgo f (l : Int) rs s L R = (b, s', L', R') →
    ((∀ r ∈ rs, T r.toNat) → b = false) ∧ ∀ r, T r → gi R' r = gi R r
  | [], s, L, R, b, s', L', R', _, _, _, h => by
    simp only [mgo, Prod.mk.injEq] at h
    obtain ⟨rfl, rfl, rfl, rfl⟩ := h
    exact ⟨fun _ => rfl, fun _ _ => rfl⟩
  | r :: rs, s, L, R, b, s', L', R', hok, hT, hrs, h => by
    have hrs2 : ∀ r ∈ rs, r ∈ nbl nb l := fun x hx => hrs x (by simp [hx])
    have hrn := hrs r (by simp)
    have hrm : 0 ≤ r ∧ r < (m : Int) := hok.hnb.2 (nbl nb l) (mem_getD (by rw [hok.hnb.1]; exact hl) []) r hrn
    obtain ⟨q, rfl⟩ : ∃ q : Nat, r = (q : Int) := ⟨r.toNat, by omega⟩
    have hRl := hok.hR.1
    unfold mgo at h
    simp only [Int.toNat_natCast] at h
    by_cases hs : s.getD q false = true
    · rw [if_pos hs] at h
      obtain ⟨h1, h2⟩ := mgo_T hf hk hl rs s L R b s' L' R' hok hT hrs2 h
      exact ⟨fun ha => h1 fun x hx => ha x (by simp [hx]), h2⟩
    · rw [if_neg hs] at h
      have hmk := mstep_keep hk hrm hok (by rw [Int.toNat_natCast]; simpa using hs)
      unfold mstep at h hmk
      rw [Int.toNat_natCast, gi_eq (by omega)] at h hmk
      by_cases hR : gi R q < 0
      · rw [if_pos hR] at h
        simp only [Prod.mk.injEq] at h
        obtain ⟨rfl, rfl, rfl, rfl⟩ := h
        have hnT : ¬ T q := fun hq => by have := (hT q hq).1; omega
        refine ⟨fun ha => absurd (ha (q : Int) (by simp)) (by rw [Int.toNat_natCast]; exact hnT), fun r hr => ?_⟩
        rw [gi_set, if_neg (show ¬ (q = r ∧ _) from fun e => hnT (e.1 ▸ hr))]
      · rw [if_neg hR] at h hmk
        obtain ⟨l2, hl2⟩ : ∃ l2 : Nat, gi R q = (l2 : Int) := ⟨(gi R q).toNat, by omega⟩
        have hl2n : l2 < n := by
          have := hok.hR.2 (gi R q) (gi_mem (by omega)); omega
        rw [hl2] at h hmk
        obtain ⟨⟨b2, s2, L2, R2⟩, hx⟩ : ∃ x, f (l2 : Int) (s.set q true) L R = x := ⟨_, rfl⟩
        have hsp := hf l2 (s.set q true) L R b2 s2 L2 R2 hl2n (hok.seen q) hT hx
        rw [hx] at h hmk
        simp only at hmk
        have hTq : T q → b2 = false := fun hq => hsp.1 (by have := (hT q hq).2; rw [hl2, Int.toNat_natCast] at this; exact this)
        cases b2 with
        | true =>
          simp only [Prod.mk.injEq, Int.toNat_natCast] at h
          obtain ⟨rfl, rfl, rfl, rfl⟩ := h
          have hnT : ¬ T q := fun hq => by cases hTq hq
          refine ⟨fun ha => absurd (ha (q : Int) (by simp)) (by rw [Int.toNat_natCast]; exact hnT), fun r hr => ?_⟩
          rw [gi_set, if_neg (show ¬ (q = r ∧ _) from fun e => hnT (e.1 ▸ hr))]
          exact hsp.2 r hr
        | false =>
          simp only at h
          obtain ⟨h1, h2⟩ := mgo_T hf hk hl rs s2 L2 R2 b s' L' R' hmk.1 (hT.same hsp.2) hrs2 h
          exact ⟨fun ha => h1 fun x hx => ha x (by simp [hx]), fun r hr => by rw [h2 r hr, hsp.2 r hr]⟩
theorem mtry_T {n m : Nat} {nb : List (List Int)} (T : Nat → Prop) : ∀ fu, TS n m nb (mtry nb fu) T
  | 0 => fun l s L R b s' L' R' _ _ _ h => by
    simp only [mtry, Prod.mk.injEq] at h
    obtain ⟨rfl, rfl, rfl, rfl⟩ := h
    exact ⟨fun _ => rfl, fun _ _ => rfl⟩
  | fu + 1 => fun l s L R b s' L' R' hl hok hT h => by
    unfold mtry at h
    rw [Int.toNat_natCast] at h
    exact mgo_T (mtry_T T fu) (fun l s L R => mtry_keep fu l s L R) hl _ s L R b s' L' R' hok hT (fun r hr => hr) h

/-- A matching in a graph. -/
structure Mch (n m : Nat) (nb : List (List Int)) (L R : List Int) : Prop where
  hL : L.length = n
  hR : R.length = m
  hRn : ∀ r, gi R r < (n : Int)
  hLm : ∀ l, gi L l < (m : Int)
  hC : Cn L R
  hE : Ed nb L
theorem Mch.ok {n m : Nat} {nb : List (List Int)} {L R : List Int} (h : Mch n m nb L R) (h1 : nb.length = n) (h2 : ∀ row ∈ nb, ∀ r ∈ row, 0 ≤ r ∧ r < (m : Int)) : MOk n m nb (List.replicate m false) L R :=
  ⟨⟨h1, h2⟩, by simp, ⟨h.hL, fun x hx => by obtain ⟨i, hi, rfl⟩ := List.getElem_of_mem hx; have := h.hLm i; rw [gi, List.getD_eq_getElem?_getD, List.getElem?_eq_getElem hi] at this; exact this⟩,
   ⟨h.hR, fun x hx => by obtain ⟨i, hi, rfl⟩ := List.getElem_of_mem hx; have := h.hRn i; rw [gi, List.getD_eq_getElem?_getD, List.getElem?_eq_getElem hi] at this; exact this⟩⟩
theorem gi_lt_of {l : List Int} {c : Int} (hc : 0 ≤ c) (h : ∀ x ∈ l, x < c) (i : Nat) : gi l i < c := by
  by_cases hi : i < l.length
  · exact h _ (gi_mem hi)
  · have : gi l i = -1 := getD_out (by omega) _
    omega
theorem sg_none (m r : Nat) : ¬ sg (List.replicate m false) r := by
  unfold sg
  rw [List.getD_eq_getElem?_getD, List.getElem?_replicate]
  split <;> simp
/-- A search from a free left node. -/
theorem mtry_top {n m : Nat} {nb : List (List Int)} (h1 : nb.length = n) (h2 : ∀ row ∈ nb, ∀ r ∈ row, 0 ≤ r ∧ r < (m : Int)) {L R : List Int} (h : Mch n m nb L R) {l : Nat} (hl : l < n) (hfr : gi L l < 0) {b : Bool} {s' : List Bool} {L' R' : List Int}
    (hx : mtry nb (m + 1) (l : Int) (List.replicate m false) L R = (b, s', L', R')) :
    (b = true → Mch n m nb L' R' ∧ (∀ l', 0 ≤ gi L' l' ↔ (0 ≤ gi L l' ∨ l' = l)) ∧ (∀ r, 0 ≤ gi R r → 0 ≤ gi R' r)) ∧
    (b = false → L' = L ∧ R' = R ∧ ∃ T : Nat → Prop, Tcl nb R T ∧ ∀ r ∈ nbl nb l, T r.toNat) ∧
    ∀ T : Nat → Prop, Tcl nb R T → ((∀ r ∈ nbl nb l, T r.toNat) → b = false) ∧ Tcl nb R' T := by
  have hok := h.ok h1 h2
  have hst : ∀ r : Nat, gi R r = (l : Int) → sg (List.replicate m false) r := fun r hr => by
    have := (h.hC l r).2 hr; omega
  have hsp := mtry_spec (m + 1) l _ L R b s' L' R' (by rw [uns_replicate]; omega) hl hok h.hC h.hE hst hx
  have hkp := (mtry_keep (m + 1) (l : Int) _ L R (by omega) hok).1
  rw [hx] at hkp
  simp only at hkp
  refine ⟨fun hb => ?_, fun hb => ?_, fun T hT => ?_⟩
  · have hS := hsp.1 hb
    obtain ⟨q, _, hq2, hq3, hq4, hq5⟩ := hS.p2
    refine ⟨⟨hkp.hL.1, hkp.hR.1, gi_lt_of (by omega) hkp.hR.2, gi_lt_of (by omega) hkp.hL.2, fun l' r => ?_, hS.p7⟩, fun l' => ?_, hS.p6⟩
    · by_cases e : l' = l
      · subst e
        constructor
        · intro h3
          have : r = q := by omega
          subst this; exact hq4
        · intro h3
          rcases hq5 r h3 with h4 | h4
          · subst h4; exact hq3
          · have := (h.hC l' r).2 h4; omega
      · exact hS.p1 l' r e
    · by_cases e : l' = l
      · subst e; omega
      · have := hS.p5 l' e
        constructor
        · intro h3; exact .inl (this.2 h3)
        · rintro (h3 | h3)
          · exact this.1 h3
          · exact absurd h3 e
  · obtain ⟨e1, e2, hF⟩ := hsp.2 hb
    refine ⟨e1, e2, fun r => sg s' r, fun r hr => ?_, hF.q3⟩
    rcases hF.q2 r hr with h3 | h3
    · exact absurd h3 (sg_none m r)
    · exact h3
  · have hTT := mtry_T T (m + 1) l _ L R b s' L' R' hl hok hT hx
    exact ⟨hTT.1, hT.same hTT.2⟩
/-- No alternating path leads from a free left node to a free right one. -/
def NoAug (nb : List (List Int)) (n : Nat) (L R : List Int) : Prop := ∃ T : Nat → Prop, Tcl nb R T ∧ ∀ l, l < n → gi L l < 0 → ∀ r ∈ nbl nb l, T r.toNat
theorem gi_rep (n i : Nat) : gi (List.replicate n (-1)) i = -1 := by
  unfold gi
  rw [List.getD_eq_getElem?_getD, List.getElem?_replicate]
  split <;> rfl
theorem mch_start (n m : Nat) (nb : List (List Int)) : Mch n m nb (List.replicate n (-1)) (List.replicate m (-1)) :=
  ⟨by simp, by simp, fun r => by rw [gi_rep]; omega, fun r => by rw [gi_rep]; omega, fun l r => by rw [gi_rep, gi_rep]; omega, fun l h => by rw [gi_rep] at h; omega⟩
theorem maxLR_spec {n m : Nat} {nb : List (List Int)} (h1 : nb.length = n) (h2 : ∀ row ∈ nb, ∀ r ∈ row, 0 ≤ r ∧ r < (m : Int)) : ∀ j, j ≤ n → Mch n m nb (maxLR nb n m j).1 (maxLR nb n m j).2 ∧
    (∀ l, j ≤ l → gi (maxLR nb n m j).1 l < 0) ∧ ∃ T : Nat → Prop, Tcl nb (maxLR nb n m j).2 T ∧ ∀ l, l < j → gi (maxLR nb n m j).1 l < 0 → ∀ r ∈ nbl nb l, T r.toNat
  | 0, _ => ⟨mch_start n m nb, fun l _ => by show gi (List.replicate n (-1)) l < 0; rw [gi_rep]; omega, fun _ => False, fun _ h => h.elim, fun l h => by omega⟩
  | j + 1, hj => by
    obtain ⟨hM, hfr, T, hT, hTn⟩ := maxLR_spec h1 h2 j (by omega)
    obtain ⟨⟨b, s', L', R'⟩, hx⟩ : ∃ x, mtry nb (m + 1) (j : Int) (List.replicate m false) (maxLR nb n m j).1 (maxLR nb n m j).2 = x := ⟨_, rfl⟩
    have hsu : (maxLR nb n m (j + 1)) = (L', R') := by show (mtry nb (m + 1) (j : Int) (List.replicate m false) (maxLR nb n m j).1 (maxLR nb n m j).2).2.2 = _; rw [hx]
    obtain ⟨a1, a2, a3⟩ := mtry_top h1 h2 hM (by omega) (hfr j (Nat.le_refl _)) hx
    rw [hsu]
    cases b with
    | true =>
      obtain ⟨b1, b2, b3⟩ := a1 rfl
      refine ⟨b1, fun l hl => ?_, T, (a3 T hT).2, fun l hl hf => ?_⟩
      · have := b2 l; have := hfr l (by omega); simp only; omega
      · have := b2 l
        simp only at hf
        exact hTn l (by omega) (by omega)
    | false =>
      obtain ⟨e1, e2, T2, c1, c2⟩ := a2 rfl
      subst e1; subst e2
      refine ⟨hM, fun l hl => hfr l (by omega), fun r => T r ∨ T2 r, fun r hr => ?_, fun l hl hf r hr => ?_⟩
      · rcases hr with hr | hr
        · exact ⟨(hT r hr).1, fun x hx => .inl ((hT r hr).2 x hx)⟩
        · exact ⟨(c1 r hr).1, fun x hx => .inr ((c1 r hr).2 x hx)⟩
      · by_cases e : l = j
        · subst e; exact .inr (c2 r hr)
        · exact .inl (hTn l (by omega) hf r hr)
theorem maxLR_max {n m : Nat} {nb : List (List Int)} (h1 : nb.length = n) (h2 : ∀ row ∈ nb, ∀ r ∈ row, 0 ≤ r ∧ r < (m : Int)) : Mch n m nb (maxLR nb n m n).1 (maxLR nb n m n).2 ∧ NoAug nb n (maxLR nb n m n).1 (maxLR nb n m n).2 :=
  let ⟨h, _, T, hT, hn⟩ := maxLR_spec h1 h2 n (Nat.le_refl n)
  ⟨h, T, hT, hn⟩
end Go.AM

/- The nodes that alternating paths reach. -/
namespace Go.AM
structure RSt where
  s : List Bool
  l : List Int
  q : List Int
def rstep (R : List Int) (r : Int) (t : RSt) : RSt :=
  if t.s.getD r.toNat false = true then t
  else ⟨t.s.set r.toNat true, if 0 ≤ R.getD r.toNat 0 then t.l ++ [R.getD r.toNat 0] else t.l, t.q ++ [r]⟩
def rrow (R : List Int) : List Int → RSt → RSt
  | [], t => t
  | r :: rs, t => rrow R rs (rstep R r t)
def rrun (nb : List (List Int)) (R : List Int) : Nat → Nat → RSt → RSt
  | 0, _, t => t
  | f + 1, i, t => if i < t.l.length then rrun nb R f (i + 1) (rrow R (nb.getD (t.l.getD i 0).toNat []) t) else t
def frL (L : List Int) (j : Nat) : List Int := ((List.range j).filter fun i => decide (L.getD i 0 < 0)).map fun (i : Nat) => (i : Int)
theorem frL_succ (L : List Int) (j : Nat) : frL L (j + 1) = if L.getD j 0 < 0 then frL L j ++ [(j : Int)] else frL L j := by
  unfold frL
  rw [List.range_succ, List.filter_append, List.map_append]
  by_cases h : L.getD j 0 < 0
  · rw [if_pos h]; simp only [List.filter_cons, h, decide_true, if_true, List.filter_nil, List.map_cons, List.map_nil]
  · rw [if_neg h]; simp only [List.filter_cons, h, decide_false, Bool.false_eq_true, if_false, List.filter_nil, List.map_nil, List.append_nil]
theorem frL_le (L : List Int) (j : Nat) : (frL L j).length ≤ j := by
  unfold frL
  rw [List.length_map]
  have := List.length_filter_le (fun i => decide (L.getD i 0 < 0)) (List.range j)
  simpa using this
theorem frL_mem {L : List Int} {n : Nat} (hn : n ≤ L.length) (x : Int) : x ∈ frL L n ↔ ∃ i : Nat, x = i ∧ i < n ∧ gi L i < 0 := by
  simp only [frL, List.mem_map, List.mem_filter, List.mem_range, decide_eq_true_eq]
  constructor
  · rintro ⟨i, ⟨h1, h2⟩, rfl⟩; exact ⟨i, rfl, h1, by rw [← gi_eq (by omega)]; exact h2⟩
  · rintro ⟨i, rfl, h1, h2⟩; exact ⟨i, ⟨h1, by rw [gi_eq (by omega)]; exact h2⟩, rfl⟩
/-- The whole search of the reached nodes. -/
def reachP (nb : List (List Int)) (L R : List Int) (n m : Nat) : RSt := rrun nb R (n + m + 1) 0 ⟨List.replicate m false, frL L n, []⟩

inductive RL (nb : List (List Int)) (n : Nat) (L R : List Int) : Nat → Prop
  | free {l : Nat} : l < n → gi L l < 0 → RL nb n L R l
  | step {l : Nat} {r : Int} {l2 : Nat} : RL nb n L R l → r ∈ nbl nb l → gi R r.toNat = (l2 : Int) → RL nb n L R l2
def RR (nb : List (List Int)) (n : Nat) (L R : List Int) (r : Nat) : Prop := ∃ l, RL nb n L R l ∧ (r : Int) ∈ nbl nb l

/-- What the search keeps. -/
structure RIv (n m : Nat) (nb : List (List Int)) (L R : List Int) (t : RSt) : Prop where
  hs : t.s.length = m
  hl : ∀ x ∈ t.l, ∃ i : Nat, x = i ∧ i < n ∧ RL nb n L R i
  hq : ∀ x ∈ t.q, ∃ r : Nat, x = r ∧ r < m ∧ RR nb n L R r ∧ sg t.s r
  hsq : ∀ r, sg t.s r → (r : Int) ∈ t.q
  hb : ∀ r, sg t.s r → 0 ≤ gi R r → gi R r ∈ t.l
  hfr : ∀ i : Nat, i < n → gi L i < 0 → (i : Int) ∈ t.l
  hlen : t.l.length + uns t.s ≤ n + m
  hlq : t.q.length + uns t.s ≤ m
structure RLe (t u : RSt) : Prop where
  hs : ∀ r, sg t.s r → sg u.s r
  hl : ∃ z, u.l = t.l ++ z
  hu : u.l.length + uns u.s ≤ t.l.length + uns t.s
theorem RLe.refl (t : RSt) : RLe t t := ⟨fun _ h => h, ⟨[], by simp⟩, Nat.le_refl _⟩
theorem RLe.trans {t u v : RSt} (h : RLe t u) (g : RLe u v) : RLe t v :=
  ⟨fun r hr => g.hs r (h.hs r hr), by obtain ⟨a, ha⟩ := h.hl; obtain ⟨b, hb⟩ := g.hl; exact ⟨a ++ b, by rw [hb, ha, List.append_assoc]⟩, Nat.le_trans g.hu h.hu⟩
theorem rstep_iv {n m : Nat} {nb : List (List Int)} {L R : List Int} (hR : R.length = m) (hRn : ∀ r, gi R r < (n : Int)) {t : RSt} (h : RIv n m nb L R t) {l : Nat} (hl : RL nb n L R l) {r : Int} (hr : r ∈ nbl nb l) (hrm : 0 ≤ r ∧ r < (m : Int)) :
    RIv n m nb L R (rstep R r t) ∧ RLe t (rstep R r t) ∧ sg (rstep R r t).s r.toNat := by
  unfold rstep
  obtain ⟨q, rfl⟩ : ∃ q : Nat, r = (q : Int) := ⟨r.toNat, by omega⟩
  rw [Int.toNat_natCast]
  by_cases hs : t.s.getD q false = true
  · rw [if_pos hs]; exact ⟨h, .refl t, hs⟩
  · rw [if_neg hs]
    have hsl := h.hs
    have hss := fun k => sg_set t.s q k (by omega)
    have hu := uns_set (s := t.s) (i := q) (by omega) (by simpa using hs)
    have hRR : RR nb n L R q := ⟨l, hl, hr⟩
    have e0 : R.getD q 0 = gi R q := gi_eq (by omega)
    rw [e0]
    have hlen := h.hlen
    have hlq := h.hlq
    have hsm : ∀ x, x ∈ t.l → x ∈ (if 0 ≤ gi R q then t.l ++ [gi R q] else t.l) := fun x hx => by split <;> simp [hx]
    refine ⟨⟨by simp [hsl], fun x hx => ?_, fun x hx => ?_, fun k hk => ?_, fun k hk hk2 => ?_, fun i hi hi2 => hsm _ (h.hfr i hi hi2), ?_, ?_⟩, ⟨fun k hk => (hss k).2 (.inr hk), ?_, ?_⟩, (hss q).2 (.inl rfl)⟩
    · simp only at hx
      split at hx
      · rename_i h0
        rcases List.mem_append.1 hx with h1 | h1
        · exact h.hl x h1
        · simp only [List.mem_singleton] at h1
          subst h1
          refine ⟨(gi R q).toNat, by omega, by have := hRn q; omega, RL.step hl hr ?_⟩
          rw [Int.toNat_natCast]; omega
      · exact h.hl x hx
    · rcases List.mem_append.1 hx with h1 | h1
      · obtain ⟨r, e, h2, h3, h4⟩ := h.hq x h1
        exact ⟨r, e, h2, h3, (hss r).2 (.inr h4)⟩
      · simp only [List.mem_singleton] at h1
        subst h1
        exact ⟨q, rfl, by omega, hRR, (hss q).2 (.inl rfl)⟩
    · rcases (hss k).1 hk with h1 | h1
      · subst h1; simp
      · exact List.mem_append.2 (.inl (h.hsq k h1))
    · rcases (hss k).1 hk with h1 | h1
      · subst h1; simp only; rw [if_pos hk2]; simp
      · exact hsm _ (h.hb k h1 hk2)
    · simp only; split <;> (try simp only [List.length_append, List.length_cons, List.length_nil]) <;> omega
    · simp only [List.length_append, List.length_cons, List.length_nil]; omega
    · simp only; split
      · exact ⟨[gi R q], rfl⟩
      · exact ⟨[], by simp⟩
    · simp only; split <;> simp <;> omega
theorem rrow_iv {n m : Nat} {nb : List (List Int)} {L R : List Int} (hR : R.length = m) (hRn : ∀ r, gi R r < (n : Int)) {l : Nat} (hl : RL nb n L R l) :
    ∀ (rs : List Int) (t : RSt), RIv n m nb L R t → (∀ r ∈ rs, r ∈ nbl nb l ∧ 0 ≤ r ∧ r < (m : Int)) → RIv n m nb L R (rrow R rs t) ∧ RLe t (rrow R rs t) ∧ ∀ r ∈ rs, sg (rrow R rs t).s r.toNat
  | [], t, h, _ => ⟨h, .refl t, fun r hr => by cases hr⟩
  | r :: rs, t, h, hrs => by
    obtain ⟨h1, h2⟩ := hrs r (by simp)
    obtain ⟨a1, a2, a3⟩ := rstep_iv hR hRn h hl h1 h2
    obtain ⟨b1, b2, b3⟩ := rrow_iv hR hRn hl rs (rstep R r t) a1 (fun x hx => hrs x (by simp [hx]))
    refine ⟨b1, a2.trans b2, fun x hx => ?_⟩
    rcases List.mem_cons.1 hx with rfl | hx
    · exact b2.hs _ a3
    · exact b3 x hx
def RCl (nb : List (List Int)) (t : RSt) (i : Nat) : Prop := ∀ k, k < i → k < t.l.length → ∀ r ∈ nbl nb (t.l.getD k 0).toNat, sg t.s r.toNat
theorem rrun_iv {n m : Nat} {nb : List (List Int)} {L R : List Int} (hn1 : nb.length = n) (hn2 : ∀ row ∈ nb, ∀ r ∈ row, 0 ≤ r ∧ r < (m : Int)) (hR : R.length = m) (hRn : ∀ r, gi R r < (n : Int)) :
    ∀ (f i : Nat) (t : RSt), t.l.length + uns t.s < f + i → RIv n m nb L R t → RCl nb t i → RIv n m nb L R (rrun nb R f i t) ∧ RCl nb (rrun nb R f i t) (rrun nb R f i t).l.length
  | 0, i, t, hf, h, hc => ⟨h, fun k hk hk2 => hc k (by show k < i; unfold rrun at hk; omega) hk2⟩
  | f + 1, i, t, hf, h, hc => by
    unfold rrun
    by_cases hi : i < t.l.length
    · rw [if_pos hi]
      obtain ⟨l, e, hln, hl⟩ := h.hl (t.l.getD i 0) (mem_getD hi 0)
      obtain ⟨a1, a2, a3⟩ := rrow_iv hR hRn hl (nb.getD (t.l.getD i 0).toNat []) t h (fun r hr => by
        rw [e, Int.toNat_natCast] at hr
        exact ⟨hr, hn2 _ (mem_getD (by omega) []) r hr⟩)
      obtain ⟨z, hz⟩ := a2.hl
      have hu := a2.hu
      refine rrun_iv hn1 hn2 hR hRn f (i + 1) _ (by omega) a1 fun k hk hk2 r hr => ?_
      rw [hz] at hr
      have hkl : k < t.l.length := by omega
      rw [List.getD_eq_getElem?_getD, List.getElem?_append_left hkl, ← List.getD_eq_getElem?_getD] at hr
      by_cases e2 : k = i
      · subst e2; exact a3 r hr
      · exact a2.hs _ (hc k (by omega) hkl r hr)
    · rw [if_neg hi]; exact ⟨h, fun k hk hk2 => hc k (by omega) hk2⟩
theorem reach_iv0 {n m : Nat} {nb : List (List Int)} {L R : List Int} (hL : L.length = n) : RIv n m nb L R ⟨List.replicate m false, frL L n, []⟩ :=
  ⟨by simp, fun x hx => by obtain ⟨i, e, h1, h2⟩ := (frL_mem (by omega) x).1 hx; exact ⟨i, e, h1, .free h1 h2⟩, fun x hx => (by cases hx), fun r hr => absurd hr (sg_none m r), fun r hr => absurd hr (sg_none m r),
   fun i hi h => (frL_mem (by omega) _).2 ⟨i, rfl, hi, h⟩, by have := frL_le L n; rw [uns_replicate]; simp only; omega, by rw [uns_replicate]; simp⟩
theorem reachP_spec {n m : Nat} {nb : List (List Int)} (hn1 : nb.length = n) (hn2 : ∀ row ∈ nb, ∀ r ∈ row, 0 ≤ r ∧ r < (m : Int)) {L R : List Int} (h : Mch n m nb L R) :
    RIv n m nb L R (reachP nb L R n m) ∧ (∀ i : Nat, (i : Int) ∈ (reachP nb L R n m).l ↔ RL nb n L R i) ∧ ∀ r : Nat, (r : Int) ∈ (reachP nb L R n m).q ↔ RR nb n L R r := by
  obtain ⟨h1, h2⟩ := rrun_iv hn1 hn2 h.hR h.hRn (n + m + 1) 0 ⟨List.replicate m false, frL L n, []⟩ (by have := frL_le L n; rw [uns_replicate]; simp only; omega) (reach_iv0 h.hL) (fun k hk => by omega)
  have hre : rrun nb R (n + m + 1) 0 ⟨List.replicate m false, frL L n, []⟩ = reachP nb L R n m := rfl
  rw [hre] at h1 h2
  have hl : ∀ i : Nat, RL nb n L R i → (i : Int) ∈ (reachP nb L R n m).l := by
    intro i hi
    induction hi with
    | free a b => exact h1.hfr _ a b
    | step a b c ih =>
      obtain ⟨k, hk, e⟩ := List.getElem_of_mem ih
      have h3 := h2 k hk hk
      rw [List.getD_eq_getElem?_getD, List.getElem?_eq_getElem hk, Option.getD_some] at h3
      rw [e, Int.toNat_natCast] at h3
      have h4 := h1.hb _ (h3 _ b) (by omega)
      rw [c] at h4; exact h4
  have hsr : ∀ r : Nat, RR nb n L R r → sg (reachP nb L R n m).s r := by
    rintro r ⟨l, a, b⟩
    have hm := hl l a
    obtain ⟨k, hk, e⟩ := List.getElem_of_mem hm
    have h3 := h2 k hk hk
    rw [List.getD_eq_getElem?_getD, List.getElem?_eq_getElem hk, Option.getD_some] at h3
    rw [e, Int.toNat_natCast] at h3
    exact h3 _ b
  refine ⟨h1, fun i => ⟨fun hi => ?_, hl i⟩, fun r => ⟨fun hr => ?_, fun hr => h1.hsq r (hsr r hr)⟩⟩
  · obtain ⟨i2, e, _, h3⟩ := h1.hl _ hi
    have : i = i2 := by omega
    subst this; exact h3
  · obtain ⟨r2, e, _, h3, _⟩ := h1.hq _ hr
    have : r = r2 := by omega
    subst this; exact h3

/-- The reference's rounds over the edges. -/
abbrev FSt := List Bool × List Bool
def eone (R : List Int) (e : Int × Int) (t : FSt × Bool) : FSt × Bool :=
  if t.1.1.getD e.1.toNat false = false ∨ t.1.2.getD e.2.toNat false = true then t
  else ((if 0 ≤ R.getD e.2.toNat 0 then t.1.1.set (R.getD e.2.toNat 0).toNat true else t.1.1, t.1.2.set e.2.toNat true), true)
def eall (R : List Int) : List (Int × Int) → FSt × Bool → FSt × Bool
  | [], t => t
  | e :: es, t => eall R es (eone R e t)
def erun (R : List Int) (E : List (Int × Int)) : Nat → FSt → FSt
  | 0, t => t
  | f + 1, t => let u := eall R E (t, false); if u.2 = true then erun R E f u.1 else u.1
def freeF (R : List Int) (n : Nat) : Nat → List Bool
  | 0 => List.replicate n true
  | j + 1 => if 0 ≤ R.getD j 0 then (freeF R n j).set (R.getD j 0).toNat false else freeF R n j
theorem freeF_len (R : List Int) (n : Nat) : ∀ j, (freeF R n j).length = n
  | 0 => by simp [freeF]
  | j + 1 => by unfold freeF; split <;> simp [freeF_len R n j]
theorem freeF_get {R : List Int} {n m : Nat} (hR : R.length = m) (hRn : ∀ r, gi R r < (n : Int)) : ∀ j, j ≤ m → ∀ i, i < n → ((freeF R n j).getD i false = true ↔ ∀ r, r < j → gi R r ≠ (i : Int))
  | 0, _, i, hi => by simp [freeF, List.getD_eq_getElem?_getD, hi]
  | j + 1, hj, i, hi => by
    have ih := freeF_get hR hRn j (by omega) i hi
    have hl := freeF_len R n j
    have e0 : R.getD j 0 = gi R j := gi_eq (by omega)
    unfold freeF
    rw [e0]
    have hlt := hRn j
    have hsp : (∀ r, r < j + 1 → gi R r ≠ (i : Int)) ↔ (∀ r, r < j → gi R r ≠ (i : Int)) ∧ gi R j ≠ (i : Int) :=
      ⟨fun h => ⟨fun r hr => h r (by omega), h j (by omega)⟩, fun h r hr => by
        by_cases e : r = j
        · subst e; exact h.2
        · exact h.1 r (by omega)⟩
    rw [hsp, ← ih]
    split
    · by_cases e : (gi R j).toNat = i
      · subst e
        rw [Go.AM.getD_set_eq (by omega)]
        constructor
        · intro h; cases h
        · intro h; omega
      · rw [Go.AM.getD_set_ne (by omega)]
        constructor
        · intro h; exact ⟨h, by omega⟩
        · intro h; exact h.1
    · constructor
      · intro h; exact ⟨h, by omega⟩
      · intro h; exact h.1
/-- What the reference's rounds keep. -/
structure FIv (n m : Nat) (nb : List (List Int)) (L R : List Int) (t : FSt) : Prop where
  h1 : t.1.length = n
  h2 : t.2.length = m
  hl : ∀ i, sg t.1 i → RL nb n L R i
  hr : ∀ r, sg t.2 r → RR nb n L R r
  hb : ∀ r, sg t.2 r → 0 ≤ gi R r → sg t.1 (gi R r).toNat
  hfr : ∀ i, i < n → gi L i < 0 → sg t.1 i
theorem eone_iv {n m : Nat} {nb : List (List Int)} {L R : List Int} (hR : R.length = m) (hRn : ∀ r, gi R r < (n : Int)) {t : FSt × Bool} (h : FIv n m nb L R t.1) {e : Int × Int} (he : edgeIn n m e = true) (hnb : e.2 ∈ nbl nb e.1.toNat) :
    FIv n m nb L R (eone R e t).1 ∧ (∀ r, sg t.1.1 r → sg (eone R e t).1.1 r) ∧ (∀ r, sg t.1.2 r → sg (eone R e t).1.2 r) ∧ (eone R e t = t ∧ (sg t.1.1 e.1.toNat → sg t.1.2 e.2.toNat) ∨ (eone R e t).2 = true ∧ uns (eone R e t).1.2 + 1 = uns t.1.2) := by
  obtain ⟨q1, q2, q3, q4⟩ := edgeIn_iff.1 he
  unfold eone
  by_cases hc : t.1.1.getD e.1.toNat false = false ∨ t.1.2.getD e.2.toNat false = true
  · rw [if_pos hc]
    refine ⟨h, fun _ h => h, fun _ h => h, .inl ⟨rfl, fun h3 => ?_⟩⟩
    rcases hc with h4 | h4
    · unfold sg at h3; rw [h4] at h3; cases h3
    · exact h4
  · rw [if_neg hc]
    have hc1 : sg t.1.1 e.1.toNat := by unfold sg; cases h4 : t.1.1.getD e.1.toNat false <;> simp_all
    have hc2 : ¬ sg t.1.2 e.2.toNat := fun h4 => hc (.inr h4)
    have hl1 := h.h1
    have hl2 := h.h2
    have e0 : R.getD e.2.toNat 0 = gi R e.2.toNat := gi_eq (by omega)
    rw [e0]
    have hlt := hRn e.2.toNat
    have hu := uns_set (s := t.1.2) (i := e.2.toNat) (by omega) (by unfold sg at hc2; simpa using hc2)
    have hs2 := fun k => sg_set t.1.2 e.2.toNat k (by omega)
    have hRR : RR nb n L R e.2.toNat := ⟨_, h.hl _ hc1, by rw [Int.toNat_of_nonneg q3]; exact hnb⟩
    have hs1 : ∀ k, sg (if 0 ≤ gi R e.2.toNat then t.1.1.set (gi R e.2.toNat).toNat true else t.1.1) k ↔ (0 ≤ gi R e.2.toNat ∧ (gi R e.2.toNat).toNat = k) ∨ sg t.1.1 k := fun k => by
      split
      · rename_i h0
        rw [sg_set _ _ _ (by omega)]
        simp [h0]
      · rename_i h0
        simp [h0]
    refine ⟨⟨by simp only; split <;> simp [hl1], by simp [hl2], fun i hi => ?_, fun r hr => ?_, fun r hr h0 => ?_, fun i hi h0 => (hs1 i).2 (.inr (h.hfr i hi h0))⟩, fun k hk => (hs1 k).2 (.inr hk), fun k hk => (hs2 k).2 (.inr hk), .inr ⟨rfl, hu⟩⟩
    · rcases (hs1 i).1 hi with ⟨h3, rfl⟩ | h3
      · exact RL.step (h.hl _ hc1) hnb (by omega)
      · exact h.hl i h3
    · rcases (hs2 r).1 hr with rfl | h3
      · exact hRR
      · exact h.hr r h3
    · rcases (hs2 r).1 hr with rfl | h3
      · exact (hs1 _).2 (.inl ⟨h0, rfl⟩)
      · exact (hs1 _).2 (.inr (h.hb r h3 h0))
theorem eall_iv {n m : Nat} {nb : List (List Int)} {L R : List Int} (hR : R.length = m) (hRn : ∀ r, gi R r < (n : Int)) : ∀ (E : List (Int × Int)) (t : FSt × Bool), (∀ e ∈ E, edgeIn n m e = true ∧ e.2 ∈ nbl nb e.1.toNat) → FIv n m nb L R t.1 →
    FIv n m nb L R (eall R E t).1 ∧ (t.2 = true → (eall R E t).2 = true) ∧ (uns (eall R E t).1.2 ≤ uns t.1.2) ∧ (eall R E t = t ∧ (∀ e ∈ E, sg t.1.1 e.1.toNat → sg t.1.2 e.2.toNat) ∨ (eall R E t).2 = true ∧ uns (eall R E t).1.2 < uns t.1.2)
  | [], t, _, h => ⟨h, fun h => h, Nat.le_refl _, .inl ⟨rfl, fun e he => by cases he⟩⟩
  | e :: E, t, hE, h => by
    obtain ⟨p1, p2⟩ := hE e (by simp)
    obtain ⟨a1, a2, a3, a4⟩ := eone_iv hR hRn h p1 p2
    obtain ⟨b1, b2, b3, b4⟩ := eall_iv hR hRn E (eone R e t) (fun x hx => hE x (by simp [hx])) a1
    unfold eall
    rcases a4 with ⟨a4, a5⟩ | ⟨a4, a5⟩
    · rw [a4] at b1 b2 b3 b4 ⊢
      refine ⟨b1, b2, b3, ?_⟩
      rcases b4 with ⟨b4, b5⟩ | b4
      · refine .inl ⟨b4, fun x hx => ?_⟩
        rcases List.mem_cons.1 hx with rfl | hx
        · exact a5
        · exact b5 x hx
      · exact .inr b4
    · exact ⟨b1, fun _ => b2 a4, by omega, .inr ⟨b2 a4, by omega⟩⟩
theorem erun_iv {n m : Nat} {nb : List (List Int)} {L R : List Int} (hR : R.length = m) (hRn : ∀ r, gi R r < (n : Int)) {E : List (Int × Int)} (hE : ∀ e ∈ E, edgeIn n m e = true ∧ e.2 ∈ nbl nb e.1.toNat) : ∀ (f : Nat) (t : FSt), uns t.2 < f → FIv n m nb L R t →
    FIv n m nb L R (erun R E f t) ∧ ∀ e ∈ E, sg (erun R E f t).1 e.1.toNat → sg (erun R E f t).2 e.2.toNat
  | 0, t, hf, _ => by omega
  | f + 1, t, hf, h => by
    obtain ⟨a1, a2, a3, a4⟩ := eall_iv hR hRn E (t, false) hE h
    unfold erun
    simp only
    rcases a4 with ⟨a4, a5⟩ | ⟨a4, a5⟩
    · rw [a4]
      simp only [Bool.false_eq_true, if_false]
      exact ⟨h, a5⟩
    · rw [if_pos a4]
      exact erun_iv hR hRn hE f _ (by simp only at a5; omega) a1
def reachF (R : List Int) (E : List (Int × Int)) (n m : Nat) : FSt := erun R E (m + 1) (freeF R n m, List.replicate m false)
theorem reachF_spec {n m : Nat} {nb : List (List Int)} {L R : List Int} (h : Mch n m nb L R) {E : List (Int × Int)} (hE : ∀ e ∈ E, edgeIn n m e = true ∧ e.2 ∈ nbl nb e.1.toNat) (hnb : ∀ l, ∀ r ∈ nbl nb l, ((l : Int), r) ∈ E) :
    (reachF R E n m).1.length = n ∧ (reachF R E n m).2.length = m ∧ (∀ i, sg (reachF R E n m).1 i ↔ RL nb n L R i) ∧ ∀ r, sg (reachF R E n m).2 r ↔ RR nb n L R r := by
  have hfg := freeF_get h.hR h.hRn m (Nat.le_refl m)
  have h0 : FIv n m nb L R (freeF R n m, List.replicate m false) := by
    refine ⟨freeF_len R n m, by simp, fun i hi => ?_, fun r hr => absurd hr (sg_none m r), fun r hr => absurd hr (sg_none m r), fun i hi h0 => ?_⟩
    · have hin : i < n := by
        have hfl := freeF_len R n m
        by_cases hh : i < n
        · exact hh
        · unfold sg at hi; rw [getD_out (by simp only; omega)] at hi; cases hi
      refine .free hin ?_
      have h1 := (hfg i hin).1 hi
      have hm := h.hLm i
      by_cases h2 : gi L i < 0
      · exact h2
      · have h3 := (h.hC i (gi L i).toNat).1 (by omega)
        exact absurd h3 (h1 _ (by omega))
    · exact (hfg i hi).2 fun r _ hr => by have := (h.hC i r).2 hr; omega
  obtain ⟨a1, a2⟩ := erun_iv h.hR h.hRn hE (m + 1) (freeF R n m, List.replicate m false) (by rw [uns_replicate]; omega) h0
  have hl : ∀ i, RL nb n L R i → sg (reachF R E n m).1 i := by
    intro i hi
    induction hi with
    | free a b => exact a1.hfr _ a b
    | @step l r l2 a b c ih =>
      have h2 := a2 _ (hnb _ _ b) (by rw [Int.toNat_natCast]; exact ih)
      have h3 := a1.hb _ h2 (by simp only; omega)
      simp only [c, Int.toNat_natCast] at h3
      exact h3
  refine ⟨a1.h1, a1.h2, fun i => ⟨a1.hl i, hl i⟩, fun r => ⟨a1.hr r, ?_⟩⟩
  rintro ⟨l, b1, b2⟩
  have := a2 _ (hnb _ _ b2) (by rw [Int.toNat_natCast]; exact hl l b1)
  rw [Int.toNat_natCast] at this
  exact this
/-- Neighbors and edges. -/
theorem foldl_nb_mem (E : List (Int × Int)) : ∀ (nb : List (List Int)) (l : Nat) (r : Int), (∀ e ∈ E, 0 ≤ e.1 ∧ e.1 < (nb.length : Int)) → (r ∈ nbl (E.foldl nbAdd nb) l ↔ r ∈ nbl nb l ∨ ((l : Int), r) ∈ E) := by
  induction E with
  | nil => intro nb l r _; simp
  | cons e E ih =>
    intro nb l r hE
    rw [List.foldl_cons, ih (nbAdd nb e) l r (fun x hx => by have := hE x (by simp [hx]); simpa [nbAdd] using this)]
    have he := hE e (by simp)
    have hm : r ∈ nbl (nbAdd nb e) l ↔ r ∈ nbl nb l ∨ ((l : Int), r) = e := by
      unfold nbl nbAdd
      by_cases h : e.1.toNat = l
      · subst h
        rw [Go.AM.getD_set_eq (by omega), List.mem_append]
        simp only [List.mem_singleton]
        rw [Int.toNat_of_nonneg he.1]
        constructor
        · rintro (h | rfl)
          · exact .inl h
          · exact .inr rfl
        · rintro (h | h)
          · exact .inl h
          · rw [← h]; exact .inr rfl
      · rw [Go.AM.getD_set_ne (by omega)]
        constructor
        · exact .inl
        · rintro (h1 | h1)
          · exact h1
          · rw [← h1] at h; simp at h
    rw [hm, List.mem_cons, or_assoc]
theorem nbOf_mem {n : Nat} {m : Int} {E : List (Int × Int)} (hE : ∀ e ∈ E, edgeIn n m e = true) (l : Nat) (r : Int) : r ∈ nbl (nbOf n E) l ↔ ((l : Int), r) ∈ E := by
  unfold nbOf
  rw [foldl_nb_mem E _ l r (fun e he => by have := edgeIn_iff.1 (hE e he); rw [List.length_replicate]; omega)]
  have : nbl (List.replicate n []) l = ([] : List Int) := by
    unfold nbl
    rw [List.getD_eq_getElem?_getD, List.getElem?_replicate]
    split <;> rfl
  rw [this]; simp
end Go.AM

namespace Go.Proofs.M
open Go.AM Go
set_option maxRecDepth 100000
set_option maxHeartbeats 2000000
theorem ints_snoc (l : List Int) (x : Int) : ints l ++ [[.int .i64 x]] = ints (l ++ [x]) := by simp [ints]
theorem ints_all (l : List Int) : (ints l).take l.length = ints l := List.take_of_length_le (by rw [ints_len]; exact Nat.le_refl _)
theorem reached_r {n m : Nat} (hn : n ≤ 512) (hm : m ≤ 512) {nb : List (List Int)} (h1 : nb.length = n) (h2 : ∀ row ∈ nb, ∀ r ∈ row, 0 ≤ r ∧ r < (m : Int)) (h3 : ∀ row ∈ nb, row.length ≤ 100000) {L R : List Int} (hM : Mch n m nb L R) :
    Reads Try.prog 33 true [.rptr [.rsl 1 (nbR nb), .rsl 1 (ints L), .rsl 1 (ints R)]] (.tup [.rsl 1 (ints (reachP nb L R n m).l), .rsl 1 (ints (reachP nb L R n m).q)]) := by
  have hL := hM.hL
  have hR := hM.hR
  have hz : List.replicate m [AV.bool false] = bools (List.replicate m false) := by simp [bools]
  have hnl := nbR_len nb
  obtain ⟨T, hT⟩ : ∃ T, reachP nb L R n m = T := ⟨_, rfl⟩
  have hT0 := hT
  rw [hT]
  unfold reachP at hT
  refine Reads.bodyF (rs := [.tmp 2, .tmp 3]) Try.func33 rfl Try.ntmps33 rfl (by simp) ?_
  generalize hQr : retQ _ _ _ = Qr
  refine AW.seq fun K1 hK1 => ?_
  -- region 0
  refine AW.regionK 0 (fun _ => none) [0, 2, 3] [15] ?_
  simp only [go_sem, reduceIte, reduceCtorEq, Nat.reduceAdd, Nat.reduceMul, Nat.reduceEqDiff, Nat.reduceLT, Nat.reduceLeDiff, Nat.reduceSub, Nat.reducePow, Nat.reduceBEq, Int.reduceToNat, List.reduceReplicate, ints_len, bools_len, hL, hR, hz, hnl, h1]
  repeat with_reducible refine cj ?_ ?_
  all_goals try first | omega
  refine hK1 _ _ _ ?_; clear hK1
  refine AW.seq fun K2 hK2 => ?_
  -- region 1
  refine AW.regionK 0 (fun _ => none) [0, 2, 3, 4] [15] ?_
  simp only [go_sem, reduceIte, reduceCtorEq, Nat.reduceAdd, Nat.reduceMul, Nat.reduceEqDiff, Nat.reduceLT, Nat.reduceLeDiff, Nat.reduceSub, Nat.reducePow, Nat.reduceBEq, Int.reduceToNat, List.reduceReplicate, ints_len, bools_len, hL, hR, hz, hnl, h1]
  repeat with_reducible refine cj ?_ ?_
  all_goals try first | omega
  refine hK2 _ _ _ ?_; clear hK2
  refine AW.seq fun K3 hK3 => ?_
  refine AW.seq fun K4 hK4 => ?_
  -- region 2
  refine AW.regionK 0 (fun _ => none) [0, 2, 3, 4, 19, 20, 21] [15] ?_
  simp only [go_sem, reduceIte, reduceCtorEq, Nat.reduceAdd, Nat.reduceMul, Nat.reduceEqDiff, Nat.reduceLT, Nat.reduceLeDiff, Nat.reduceSub, Nat.reducePow, Nat.reduceBEq, Int.reduceToNat, List.reduceReplicate, ints_len, bools_len, hL, hR, hz, hnl, h1]
  repeat with_reducible refine cj ?_ ?_
  all_goals try first | omega
  refine hK4 _ _ _ ?_; clear hK4
  refine AW.block ?_
  refine AW.nilOwn 2 200 1 (by simp only [go_sem, reduceIte, Nat.reduceEqDiff]) ?_
  refine AW.nilOwn 3 201 1 (by simp only [go_sem, reduceIte, Nat.reduceEqDiff]) ?_
  refine AW.keep [0, 2, 3, 4, 19, 20, 21] [15, 200, 201] ?_
  simp only [go_sem, reduceIte, Nat.reduceEqDiff]
  -- loop 1
  refine AW.loopE (fun mm ee ss kk => ∃ (j g4 v4 g2 v2 g3 v3 : Nat), n - j = mm ∧ ee = [(0, .rptr [.rsl 1 (nbR nb), .rsl 1 (ints L), .rsl 1 (ints R)]), (2, .sl ⟨200, g2, none⟩ 0 (frL L j).length none), (3, .sl ⟨201, g3, none⟩ 0 0 none), (4, .sl ⟨15, g4, none⟩ 0 m none), (19, .rsl 1 (ints L)), (20, .int .i64 n), (21, .int .i64 (j : Nat))] ∧ ss = [(15, some ⟨g4, v4, 1, bools (List.replicate m false)⟩), (200, some ⟨g2, v2, 1, ints (frL L j)⟩), (201, some ⟨g3, v3, 1, ints []⟩)] ∧ (j ≤ n)) ?_ ?_
  · refine ⟨_, 0, ?_, ?_, ?_, ?_, ?_, ?_, rfl, ?henv, ?hstore, ?hst⟩
    case henv =>
      repeat' (first | rfl | refine env_cons ?_ ?_ | refine st_cons ?_ ?_ ?_ ?_ | refine int_eq ?_ | refine bool_eq ?_ | refine rsl_eq ?_ | refine osl_eq ?_ | refine sl_eq ?_ ?_ ?_ | refine ptr_eq ?_ ?_ ?_ | refine agg_eq ?_ | refine es_cons ?_ ?_ | refine row_cons ?_ ?_)
      all_goals (first | (simp; done) | omega | (simp; omega))
    case hstore =>
      repeat' (first | rfl | refine env_cons ?_ ?_ | refine st_cons ?_ ?_ ?_ ?_ | refine int_eq ?_ | refine bool_eq ?_ | refine rsl_eq ?_ | refine osl_eq ?_ | refine sl_eq ?_ ?_ ?_ | refine ptr_eq ?_ ?_ ?_ | refine agg_eq ?_ | refine es_cons ?_ ?_ | refine row_cons ?_ ?_)
      all_goals (first | (simp; done) | omega | (simp; omega))
    case hst =>
      first | trivial | omega | (simp; done) | (simp; omega)
  rintro mm ee ss kk ⟨j, g4, v4, g2, v2, g3, v3, rfl, rfl, rfl, hI⟩
  generalize hQl1 : thenQ _ _ = Ql1
  refine AW.seq fun K5 hK5 => ?_
  -- region 3
  refine AW.regionK 0 (fun _ => none) [0, 2, 3, 4, 19, 20, 21, 22] [15, 200, 201] ?_
  simp only [go_sem, reduceIte, reduceCtorEq, Nat.reduceAdd, Nat.reduceMul, Nat.reduceEqDiff, Nat.reduceLT, Nat.reduceLeDiff, Nat.reduceSub, Nat.reducePow, Nat.reduceBEq, Int.reduceToNat, List.reduceReplicate, ints_len, bools_len, hL, hR, hz, hnl, h1]
  repeat with_reducible refine cj ?_ ?_
  all_goals try first | omega
  refine hK5 _ _ _ ?_; clear hK5
  refine AW.seq fun K6 hK6 => ?_
  -- cond 1
  refine AW.cond rfl (by simp only [go_sem, reduceIte, reduceCtorEq, Nat.reduceAdd, Nat.reduceMul, Nat.reduceEqDiff, Nat.reduceLT, Nat.reduceLeDiff, Nat.reduceSub, Nat.reducePow, Nat.reduceBEq, Int.reduceToNat, List.reduceReplicate]) ?_ ?_
  · intro hb
    try simp only [hB, decide_eq_true_eq, decide_eq_false_iff_not] at hb
    have hgl := ints_getD (l := L) (i := j) (by omega)
    have hsu := frL_succ L j
    have hle := frL_le L j
    have htk := ints_all (frL L j)
    have hsn := ints_snoc (frL L j) (j : Int)
    generalize hP : frL L j = P at *
    refine AW.skip ?_
    refine hK6 _ _ _ ?_; clear hK6
    refine AW.seq fun K7 hK7 => ?_
    refine AW.block ?_
    refine AW.seq fun K8 hK8 => ?_
    -- region 4
    refine AW.regionK 0 (fun _ => none) [0, 2, 3, 4, 5, 6, 19, 20, 21] [15, 200, 201] ?_
    simp only [go_sem, reduceIte, reduceCtorEq, Nat.reduceAdd, Nat.reduceMul, Nat.reduceEqDiff, Nat.reduceLT, Nat.reduceLeDiff, Nat.reduceSub, Nat.reducePow, Nat.reduceBEq, Int.reduceToNat, List.reduceReplicate, ints_len, bools_len, hL, hR, hz, hnl, h1, hgl]
    repeat with_reducible refine cj ?_ ?_
    all_goals try first | omega
    refine hK8 _ _ _ ?_; clear hK8
    refine AW.seq fun K9 hK9 => ?_
    -- region 5
    refine AW.regionK 0 (fun _ => none) [0, 2, 3, 4, 5, 19, 20, 21, 27] [15, 200, 201] ?_
    simp only [go_sem, reduceIte, reduceCtorEq, Nat.reduceAdd, Nat.reduceMul, Nat.reduceEqDiff, Nat.reduceLT, Nat.reduceLeDiff, Nat.reduceSub, Nat.reducePow, Nat.reduceBEq, Int.reduceToNat, List.reduceReplicate, ints_len, bools_len, hL, hR, hz, hnl, h1]
    repeat with_reducible refine cj ?_ ?_
    all_goals try first | omega
    refine hK9 _ _ _ ?_; clear hK9
    -- cond 2
    refine AW.cond rfl (by simp only [go_sem, reduceIte, reduceCtorEq, Nat.reduceAdd, Nat.reduceMul, Nat.reduceEqDiff, Nat.reduceLT, Nat.reduceLeDiff, Nat.reduceSub, Nat.reducePow, Nat.reduceBEq, Int.reduceToNat, List.reduceReplicate]) ?_ ?_
    · intro hb
      try simp only [hB, decide_eq_true_eq, decide_eq_false_iff_not] at hb
      rw [if_pos hb] at hsu
      -- region 6
      refine AW.regionK 0 (fun _ => none) [0, 2, 3, 4, 19, 20, 21] [15, 200, 201] ?_
      simp only [go_sem, reduceIte, reduceCtorEq, Nat.reduceAdd, Nat.reduceMul, Nat.reduceEqDiff, Nat.reduceLT, Nat.reduceLeDiff, Nat.reduceSub, Nat.reducePow, Nat.reduceBEq, Int.reduceToNat, List.reduceReplicate, ints_len, bools_len, hL, hR, hz, hnl, h1, htk, hsn]
      repeat with_reducible refine cj ?_ ?_
      all_goals try first | omega | (simp [scP, scalar]; done) | exact scP_words _ | exact scP_ints _ | exact scP_bools _
      refine hK7 _ _ _ ?_; clear hK7
      -- region 7
      refine AW.regionK 0 (fun _ => none) [0, 2, 3, 4, 19, 20, 21] [15, 200, 201] ?_
      simp only [go_sem, reduceIte, reduceCtorEq, Nat.reduceAdd, Nat.reduceMul, Nat.reduceEqDiff, Nat.reduceLT, Nat.reduceLeDiff, Nat.reduceSub, Nat.reducePow, Nat.reduceBEq, Int.reduceToNat, List.reduceReplicate, ints_len, bools_len, hL, hR, hz, hnl, h1]
      repeat with_reducible refine cj ?_ ?_
      all_goals try first | omega
      rw [← hQl1]
      change Exists _
      refine ⟨_, ?hm, j + 1, ?_, ?_, ?_, ?_, ?_, ?_, rfl, ?henv, ?hstore, ?hst⟩
      case henv =>
        repeat' (first | rfl | refine env_cons ?_ ?_ | refine st_cons ?_ ?_ ?_ ?_ | refine int_eq ?_ | refine bool_eq ?_ | refine rsl_eq ?_ | refine osl_eq ?_ | refine sl_eq ?_ ?_ ?_ | refine ptr_eq ?_ ?_ ?_ | refine agg_eq ?_ | refine es_cons ?_ ?_ | refine row_cons ?_ ?_)
        all_goals (rw [hsu]; try simp)
      case hstore =>
        repeat' (first | rfl | refine env_cons ?_ ?_ | refine st_cons ?_ ?_ ?_ ?_ | refine int_eq ?_ | refine bool_eq ?_ | refine rsl_eq ?_ | refine osl_eq ?_ | refine sl_eq ?_ ?_ ?_ | refine ptr_eq ?_ ?_ ?_ | refine agg_eq ?_ | refine es_cons ?_ ?_ | refine row_cons ?_ ?_)
        all_goals (rw [hsu])
      case hst =>
        first | trivial | omega | (simp; done) | (simp; omega)
      case hm => omega
    · intro hb
      try simp only [hB, decide_eq_true_eq, decide_eq_false_iff_not] at hb
      rw [if_neg (by omega)] at hsu
      refine AW.skip ?_
      refine hK7 _ _ _ ?_; clear hK7
      -- region 7
      refine AW.regionK 0 (fun _ => none) [0, 2, 3, 4, 19, 20, 21] [15, 200, 201] ?_
      simp only [go_sem, reduceIte, reduceCtorEq, Nat.reduceAdd, Nat.reduceMul, Nat.reduceEqDiff, Nat.reduceLT, Nat.reduceLeDiff, Nat.reduceSub, Nat.reducePow, Nat.reduceBEq, Int.reduceToNat, List.reduceReplicate, ints_len, bools_len, hL, hR, hz, hnl, h1]
      repeat with_reducible refine cj ?_ ?_
      all_goals try first | omega
      rw [← hQl1]
      change Exists _
      refine ⟨_, ?hm, j + 1, ?_, ?_, ?_, ?_, ?_, ?_, rfl, ?henv, ?hstore, ?hst⟩
      case henv =>
        repeat' (first | rfl | refine env_cons ?_ ?_ | refine st_cons ?_ ?_ ?_ ?_ | refine int_eq ?_ | refine bool_eq ?_ | refine rsl_eq ?_ | refine osl_eq ?_ | refine sl_eq ?_ ?_ ?_ | refine ptr_eq ?_ ?_ ?_ | refine agg_eq ?_ | refine es_cons ?_ ?_ | refine row_cons ?_ ?_)
        all_goals (rw [hsu]; try simp)
      case hstore =>
        repeat' (first | rfl | refine env_cons ?_ ?_ | refine st_cons ?_ ?_ ?_ ?_ | refine int_eq ?_ | refine bool_eq ?_ | refine rsl_eq ?_ | refine osl_eq ?_ | refine sl_eq ?_ ?_ ?_ | refine ptr_eq ?_ ?_ ?_ | refine agg_eq ?_ | refine es_cons ?_ ?_ | refine row_cons ?_ ?_)
        all_goals (rw [hsu])
      case hst =>
        first | trivial | omega | (simp; done) | (simp; omega)
      case hm => omega
  · intro hb
    try simp only [hB, decide_eq_true_eq, decide_eq_false_iff_not] at hb
    have hj : n = j := by omega
    subst hj
    refine AW.exit ?_
    rw [← hQl1]
    refine hK3 _ _ _ ?_; clear hK3
    refine AW.seq fun K10 hK10 => ?_
    refine AW.seq fun K11 hK11 => ?_
    -- region 8
    refine AW.regionK 0 (fun _ => none) [0, 2, 3, 4, 7] [15, 200, 201] ?_
    simp only [go_sem, reduceIte, reduceCtorEq, Nat.reduceAdd, Nat.reduceMul, Nat.reduceEqDiff, Nat.reduceLT, Nat.reduceLeDiff, Nat.reduceSub, Nat.reducePow, Nat.reduceBEq, Int.reduceToNat, List.reduceReplicate, ints_len, bools_len, hL, hR, hz, hnl, h1]
    repeat with_reducible refine cj ?_ ?_
    all_goals try first | omega
    refine hK11 _ _ _ ?_; clear hK11
    refine AW.block ?_
    -- loop 2
    refine AW.loopE (fun mm ee ss kk => ∃ (i fu g4 v4 g2 v2 g3 v3 : Nat) (t : RSt), fu + 1 = mm ∧ ee = [(0, .rptr [.rsl 1 (nbR nb), .rsl 1 (ints L), .rsl 1 (ints R)]), (2, .sl ⟨200, g2, none⟩ 0 t.l.length none), (3, .sl ⟨201, g3, none⟩ 0 t.q.length none), (4, .sl ⟨15, g4, none⟩ 0 m none), (7, .int .i64 (i : Nat))] ∧ ss = [(15, some ⟨g4, v4, 1, bools t.s⟩), (200, some ⟨g2, v2, 1, ints t.l⟩), (201, some ⟨g3, v3, 1, ints t.q⟩)] ∧ (RIv n m nb L R t ∧ i ≤ t.l.length ∧ t.l.length + uns t.s < fu + i ∧ rrun nb R fu i t = T)) ?_ ?_
    · refine ⟨_, 0, (n + m + 1), ?_, ?_, ?_, ?_, ?_, ?_, ⟨List.replicate m false, frL L n, []⟩, rfl, ?henv, ?hstore, ?hst⟩
      case henv =>
        repeat' (first | rfl | refine env_cons ?_ ?_ | refine st_cons ?_ ?_ ?_ ?_ | refine int_eq ?_ | refine bool_eq ?_ | refine rsl_eq ?_ | refine osl_eq ?_ | refine sl_eq ?_ ?_ ?_ | refine ptr_eq ?_ ?_ ?_ | refine agg_eq ?_ | refine es_cons ?_ ?_ | refine row_cons ?_ ?_)
        all_goals (first | (simp; done) | omega | (simp; omega))
      case hstore =>
        repeat' (first | rfl | refine env_cons ?_ ?_ | refine st_cons ?_ ?_ ?_ ?_ | refine int_eq ?_ | refine bool_eq ?_ | refine rsl_eq ?_ | refine osl_eq ?_ | refine sl_eq ?_ ?_ ?_ | refine ptr_eq ?_ ?_ ?_ | refine agg_eq ?_ | refine es_cons ?_ ?_ | refine row_cons ?_ ?_)
        all_goals (first | (simp; done) | omega | (simp; omega))
      case hst =>
        exact ⟨reach_iv0 hL, by omega, by have := frL_le L n; rw [uns_replicate]; simp only; omega, hT⟩
    rintro mm ee ss kk ⟨i, fu, g4, v4, g2, v2, g3, v3, t, rfl, rfl, rfl, hI⟩
    generalize hQl2 : thenQ _ _ = Ql2
    obtain ⟨hiv, hil, hfu, hrun⟩ := hI
    have hsl := hiv.hs
    have hll := hiv.hlen
    have hql := hiv.hlq
    refine AW.seq fun K12 hK12 => ?_
    refine AW.seq fun K13 hK13 => ?_
    -- region 9
    refine AW.regionK 0 (fun _ => none) [0, 2, 3, 4, 7, 36] [15, 200, 201] ?_
    simp only [go_sem, reduceIte, reduceCtorEq, Nat.reduceAdd, Nat.reduceMul, Nat.reduceEqDiff, Nat.reduceLT, Nat.reduceLeDiff, Nat.reduceSub, Nat.reducePow, Nat.reduceBEq, Int.reduceToNat, List.reduceReplicate, ints_len, bools_len, hL, hR, hz, hnl, h1]
    repeat with_reducible refine cj ?_ ?_
    all_goals try first | omega
    refine hK13 _ _ _ ?_; clear hK13
    -- cond 3
    refine AW.cond rfl (by simp only [go_sem, reduceIte, reduceCtorEq, Nat.reduceAdd, Nat.reduceMul, Nat.reduceEqDiff, Nat.reduceLT, Nat.reduceLeDiff, Nat.reduceSub, Nat.reducePow, Nat.reduceBEq, Int.reduceToNat, List.reduceReplicate]) ?_ ?_
    · intro hb
      try simp only [hB, decide_eq_true_eq, decide_eq_false_iff_not] at hb
      obtain ⟨fu, rfl⟩ : ∃ f, fu = f + 1 := ⟨fu - 1, by omega⟩
      unfold rrun at hrun
      rw [if_pos (by omega)] at hrun
      obtain ⟨l, hle, hln, hRL⟩ := hiv.hl (t.l.getD i 0) (mem_getD (by omega) 0)
      have hgl := ints_getD (l := t.l) (i := i) (by omega)
      rw [hle] at hgl hrun
      rw [Int.toNat_natCast] at hrun
      obtain ⟨row, hrow⟩ := getI (l := nb) (j := l) (by omega)
      have hgn := nbR_get hrow
      have hrd : nb.getD l [] = row := by rw [List.getD_eq_getElem?_getD, hrow]; rfl
      have hrl := h3 row (List.mem_of_getElem? hrow)
      have hrr := h2 row (List.mem_of_getElem? hrow)
      rw [hrd] at hrun
      have hriv := rrow_iv hR hM.hRn hRL row t hiv (fun r hr => ⟨by show r ∈ nb.getD l []; rw [hrd]; exact hr, hrr r hr⟩)
      generalize hU : rrow R row t = U at *
      refine AW.skip ?_
      refine hK12 _ _ _ ?_; clear hK12
      refine AW.seq fun K14 hK14 => ?_
      refine AW.block ?_
      refine AW.seq fun K15 hK15 => ?_
      -- region 11
      refine AW.regionD mixed 0 (fun _ => none) [0, 2, 3, 4, 7, 48, 49, 50] [15, 200, 201] ?_
      simp only [go_sem, reduceIte, reduceCtorEq, Nat.reduceAdd, Nat.reduceMul, Nat.reduceEqDiff, Nat.reduceLT, Nat.reduceLeDiff, Nat.reduceSub, Nat.reducePow, Nat.reduceBEq, Int.reduceToNat, List.reduceReplicate, ints_len, bools_len, hL, hR, hz, hnl, h1, hgl, hgn, Int.toNat_natCast]
      repeat with_reducible refine cj ?_ ?_
      all_goals try first | omega | exact chk (by kernel_rfl)
      refine hK15 _ _ _ ?_; clear hK15
      refine AW.block ?_
      -- loop 3
      refine AW.loopE (fun mm ee ss kk => ∃ (j g4 v4 g2 v2 g3 v3 : Nat) (u : RSt), row.length - j = mm ∧ ee = [(0, .rptr [.rsl 1 (nbR nb), .rsl 1 (ints L), .rsl 1 (ints R)]), (2, .sl ⟨200, g2, none⟩ 0 u.l.length none), (3, .sl ⟨201, g3, none⟩ 0 u.q.length none), (4, .sl ⟨15, g4, none⟩ 0 m none), (7, .int .i64 (i : Nat)), (48, .rsl 1 (ints row)), (49, .int .i64 row.length), (50, .int .i64 (j : Nat))] ∧ ss = [(15, some ⟨g4, v4, 1, bools u.s⟩), (200, some ⟨g2, v2, 1, ints u.l⟩), (201, some ⟨g3, v3, 1, ints u.q⟩)] ∧ (RIv n m nb L R u ∧ j ≤ row.length ∧ rrow R (row.drop j) u = U)) ?_ ?_
      · refine ⟨_, 0, ?_, ?_, ?_, ?_, ?_, ?_, t, rfl, ?henv, ?hstore, ?hst⟩
        case henv =>
          repeat' (first | rfl | refine env_cons ?_ ?_ | refine st_cons ?_ ?_ ?_ ?_ | refine int_eq ?_ | refine bool_eq ?_ | refine rsl_eq ?_ | refine osl_eq ?_ | refine sl_eq ?_ ?_ ?_ | refine ptr_eq ?_ ?_ ?_ | refine agg_eq ?_ | refine es_cons ?_ ?_ | refine row_cons ?_ ?_)
          all_goals (first | (simp; done) | omega | (simp; omega))
        case hstore =>
          repeat' (first | rfl | refine env_cons ?_ ?_ | refine st_cons ?_ ?_ ?_ ?_ | refine int_eq ?_ | refine bool_eq ?_ | refine rsl_eq ?_ | refine osl_eq ?_ | refine sl_eq ?_ ?_ ?_ | refine ptr_eq ?_ ?_ ?_ | refine agg_eq ?_ | refine es_cons ?_ ?_ | refine row_cons ?_ ?_)
          all_goals (first | (simp; done) | omega | (simp; omega))
        case hst =>
          exact ⟨hiv, by omega, hU⟩
      rintro mm ee ss kk ⟨j, g4, v4, g2, v2, g3, v3, u, rfl, rfl, rfl, hI⟩
      generalize hQl3 : thenQ _ _ = Ql3
      obtain ⟨hiu, hjl, hro⟩ := hI
      have hsl2 := hiu.hs
      have hll2 := hiu.hlen
      have hql2 := hiu.hlq
      refine AW.seq fun K16 hK16 => ?_
      -- region 12
      refine AW.regionK 0 (fun _ => none) [0, 2, 3, 4, 7, 48, 49, 50, 51] [15, 200, 201] ?_
      simp only [go_sem, reduceIte, reduceCtorEq, Nat.reduceAdd, Nat.reduceMul, Nat.reduceEqDiff, Nat.reduceLT, Nat.reduceLeDiff, Nat.reduceSub, Nat.reducePow, Nat.reduceBEq, Int.reduceToNat, List.reduceReplicate, ints_len, bools_len, hL, hR, hz, hnl, h1]
      repeat with_reducible refine cj ?_ ?_
      all_goals try first | omega
      refine hK16 _ _ _ ?_; clear hK16
      refine AW.seq fun K17 hK17 => ?_
      -- cond 4
      refine AW.cond rfl (by simp only [go_sem, reduceIte, reduceCtorEq, Nat.reduceAdd, Nat.reduceMul, Nat.reduceEqDiff, Nat.reduceLT, Nat.reduceLeDiff, Nat.reduceSub, Nat.reducePow, Nat.reduceBEq, Int.reduceToNat, List.reduceReplicate]) ?_ ?_
      · intro hb
        try simp only [hB, decide_eq_true_eq, decide_eq_false_iff_not] at hb
        obtain ⟨r, hr⟩ := getI (l := row) (j := j) (by omega)
        have hgr := ints_get hr
        have hrm := hrr r (List.mem_of_getElem? hr)
        have hgs := bools_getD (l := u.s) (i := r.toNat) (by omega)
        have hgR := ints_getD (l := R) (i := r.toNat) (by omega)
        have hus := bools_upd u.s r.toNat true
        have hdr : row.drop j = r :: row.drop (j + 1) := by rw [List.drop_eq_getElem_cons (by omega)]; congr 1; exact (List.getElem?_eq_some_iff.1 hr).2
        rw [hdr] at hro
        unfold rrow at hro
        have hst := (rstep_iv hR hM.hRn hiu hRL (r := r) (by show r ∈ nb.getD l []; rw [hrd]; exact List.mem_of_getElem? hr) hrm).1
        have htq := ints_all u.q
        have hsq := ints_snoc u.q r
        have htl := ints_all u.l
        have hsl3 := ints_snoc u.l (R.getD r.toNat 0)
        refine AW.skip ?_
        refine hK17 _ _ _ ?_; clear hK17
        refine AW.seq fun K18 hK18 => ?_
        refine AW.block ?_
        refine AW.seq fun K19 hK19 => ?_
        -- region 13
        refine AW.regionK 0 (fun _ => none) [0, 2, 3, 4, 7, 9, 48, 49, 50] [15, 200, 201] ?_
        simp only [go_sem, reduceIte, reduceCtorEq, Nat.reduceAdd, Nat.reduceMul, Nat.reduceEqDiff, Nat.reduceLT, Nat.reduceLeDiff, Nat.reduceSub, Nat.reducePow, Nat.reduceBEq, Int.reduceToNat, List.reduceReplicate, ints_len, bools_len, hL, hR, hz, hnl, h1, hgr]
        repeat with_reducible refine cj ?_ ?_
        all_goals try first | omega
        refine hK19 _ _ _ ?_; clear hK19
        refine AW.seq fun K20 hK20 => ?_
        refine AW.seq fun K21 hK21 => ?_
        -- region 14
        refine AW.regionK 0 (fun _ => none) [0, 2, 3, 4, 7, 9, 48, 49, 50, 57] [15, 200, 201] ?_
        simp only [go_sem, reduceIte, reduceCtorEq, Nat.reduceAdd, Nat.reduceMul, Nat.reduceEqDiff, Nat.reduceLT, Nat.reduceLeDiff, Nat.reduceSub, Nat.reducePow, Nat.reduceBEq, Int.reduceToNat, List.reduceReplicate, ints_len, bools_len, hL, hR, hz, hnl, h1, hsl2, hgs]
        repeat with_reducible refine cj ?_ ?_
        all_goals try first | omega
        refine hK21 _ _ _ ?_; clear hK21
        -- cond 5
        refine AW.cond rfl (by simp only [go_sem, reduceIte, reduceCtorEq, Nat.reduceAdd, Nat.reduceMul, Nat.reduceEqDiff, Nat.reduceLT, Nat.reduceLeDiff, Nat.reduceSub, Nat.reducePow, Nat.reduceBEq, Int.reduceToNat, List.reduceReplicate]) ?_ ?_
        · intro hb
          try simp only [hB, decide_eq_true_eq, decide_eq_false_iff_not] at hb
          unfold rstep at hst hro
          rw [if_pos hb] at hst hro
          obtain ⟨w, hw⟩ : ∃ w, w = u := ⟨_, rfl⟩
          refine AW.exit ?_
          refine hK18 _ _ _ ?_; clear hK18
          -- region 19
          refine AW.regionK 0 (fun _ => none) [0, 2, 3, 4, 7, 48, 49, 50] [15, 200, 201] ?_
          simp only [go_sem, reduceIte, reduceCtorEq, Nat.reduceAdd, Nat.reduceMul, Nat.reduceEqDiff, Nat.reduceLT, Nat.reduceLeDiff, Nat.reduceSub, Nat.reducePow, Nat.reduceBEq, Int.reduceToNat, List.reduceReplicate, ints_len, bools_len, hL, hR, hz, hnl, h1]
          repeat with_reducible refine cj ?_ ?_
          all_goals try first | omega
          rw [← hQl3]
          change Exists _
          refine ⟨_, ?hm, j + 1, ?_, ?_, ?_, ?_, ?_, ?_, w, rfl, ?henv, ?hstore, ?hst⟩
          case henv =>
            repeat' (first | rfl | refine env_cons ?_ ?_ | refine st_cons ?_ ?_ ?_ ?_ | refine int_eq ?_ | refine bool_eq ?_ | refine rsl_eq ?_ | refine osl_eq ?_ | refine sl_eq ?_ ?_ ?_ | refine ptr_eq ?_ ?_ ?_ | refine agg_eq ?_ | refine es_cons ?_ ?_ | refine row_cons ?_ ?_)
            all_goals (first | (rw [hw]; done) | (rw [hw]; simp; done) | omega | (simp; done))
          case hstore =>
            repeat' (first | rfl | refine env_cons ?_ ?_ | refine st_cons ?_ ?_ ?_ ?_ | refine int_eq ?_ | refine bool_eq ?_ | refine rsl_eq ?_ | refine osl_eq ?_ | refine sl_eq ?_ ?_ ?_ | refine ptr_eq ?_ ?_ ?_ | refine agg_eq ?_ | refine es_cons ?_ ?_ | refine row_cons ?_ ?_)
            all_goals (rw [hw])
          case hst =>
            rw [← hw] at hst hro
            exact ⟨hst, by omega, hro⟩
          case hm => omega
        · intro hb
          try simp only [hB, decide_eq_true_eq, decide_eq_false_iff_not] at hb
          unfold rstep at hst hro
          rw [if_neg (by rw [hb]; simp)] at hst hro
          refine AW.skip ?_
          refine hK20 _ _ _ ?_; clear hK20
          refine AW.seq fun K22 hK22 => ?_
          -- region 15
          refine AW.regionK 0 (fun _ => none) [0, 2, 3, 4, 7, 9, 48, 49, 50] [15, 200, 201] ?_
          simp only [go_sem, reduceIte, reduceCtorEq, Nat.reduceAdd, Nat.reduceMul, Nat.reduceEqDiff, Nat.reduceLT, Nat.reduceLeDiff, Nat.reduceSub, Nat.reducePow, Nat.reduceBEq, Int.reduceToNat, List.reduceReplicate, ints_len, bools_len, hL, hR, hz, hnl, h1, hsl2, hus]
          repeat with_reducible refine cj ?_ ?_
          all_goals try first | omega
          refine hK22 _ _ _ ?_; clear hK22
          refine AW.seq fun K23 hK23 => ?_
          -- region 16
          refine AW.regionK 0 (fun _ => none) [0, 2, 3, 4, 7, 9, 48, 49, 50] [15, 200, 201] ?_
          simp only [go_sem, reduceIte, reduceCtorEq, Nat.reduceAdd, Nat.reduceMul, Nat.reduceEqDiff, Nat.reduceLT, Nat.reduceLeDiff, Nat.reduceSub, Nat.reducePow, Nat.reduceBEq, Int.reduceToNat, List.reduceReplicate, ints_len, bools_len, hL, hR, hz, hnl, h1, htq, hsq]
          repeat with_reducible refine cj ?_ ?_
          all_goals try first | omega | (simp [scP, scalar]; done) | exact scP_words _ | exact scP_ints _ | exact scP_bools _
          refine hK23 _ _ _ ?_; clear hK23
          refine AW.seq fun K24 hK24 => ?_
          -- region 17
          refine AW.regionK 0 (fun _ => none) [0, 2, 3, 4, 7, 9, 48, 49, 50, 72] [15, 200, 201] ?_
          simp only [go_sem, reduceIte, reduceCtorEq, Nat.reduceAdd, Nat.reduceMul, Nat.reduceEqDiff, Nat.reduceLT, Nat.reduceLeDiff, Nat.reduceSub, Nat.reducePow, Nat.reduceBEq, Int.reduceToNat, List.reduceReplicate, ints_len, bools_len, hL, hR, hz, hnl, h1, hgR]
          repeat with_reducible refine cj ?_ ?_
          all_goals try first | omega
          refine hK24 _ _ _ ?_; clear hK24
          -- cond 6
          refine AW.cond rfl (by simp only [go_sem, reduceIte, reduceCtorEq, Nat.reduceAdd, Nat.reduceMul, Nat.reduceEqDiff, Nat.reduceLT, Nat.reduceLeDiff, Nat.reduceSub, Nat.reducePow, Nat.reduceBEq, Int.reduceToNat, List.reduceReplicate]) ?_ ?_
          · intro hb
            try simp only [hB, decide_eq_true_eq, decide_eq_false_iff_not] at hb
            rw [if_pos hb] at hst hro
            obtain ⟨w, hw⟩ : ∃ w : RSt, w = ⟨u.s.set r.toNat true, u.l ++ [R.getD r.toNat 0], u.q ++ [r]⟩ := ⟨_, rfl⟩
            -- region 18
            refine AW.regionK 0 (fun _ => none) [0, 2, 3, 4, 7, 48, 49, 50] [15, 200, 201] ?_
            simp only [go_sem, reduceIte, reduceCtorEq, Nat.reduceAdd, Nat.reduceMul, Nat.reduceEqDiff, Nat.reduceLT, Nat.reduceLeDiff, Nat.reduceSub, Nat.reducePow, Nat.reduceBEq, Int.reduceToNat, List.reduceReplicate, ints_len, bools_len, hL, hR, hz, hnl, h1, hgR, htl, hsl3]
            repeat with_reducible refine cj ?_ ?_
            all_goals try first | omega | (simp [scP, scalar]; done) | exact scP_words _ | exact scP_ints _ | exact scP_bools _
            refine hK18 _ _ _ ?_; clear hK18
            -- region 19
            refine AW.regionK 0 (fun _ => none) [0, 2, 3, 4, 7, 48, 49, 50] [15, 200, 201] ?_
            simp only [go_sem, reduceIte, reduceCtorEq, Nat.reduceAdd, Nat.reduceMul, Nat.reduceEqDiff, Nat.reduceLT, Nat.reduceLeDiff, Nat.reduceSub, Nat.reducePow, Nat.reduceBEq, Int.reduceToNat, List.reduceReplicate, ints_len, bools_len, hL, hR, hz, hnl, h1]
            repeat with_reducible refine cj ?_ ?_
            all_goals try first | omega
            rw [← hQl3]
            change Exists _
            refine ⟨_, ?hm, j + 1, ?_, ?_, ?_, ?_, ?_, ?_, w, rfl, ?henv, ?hstore, ?hst⟩
            case henv =>
              repeat' (first | rfl | refine env_cons ?_ ?_ | refine st_cons ?_ ?_ ?_ ?_ | refine int_eq ?_ | refine bool_eq ?_ | refine rsl_eq ?_ | refine osl_eq ?_ | refine sl_eq ?_ ?_ ?_ | refine ptr_eq ?_ ?_ ?_ | refine agg_eq ?_ | refine es_cons ?_ ?_ | refine row_cons ?_ ?_)
              all_goals (first | (rw [hw]; done) | (rw [hw]; simp; done) | omega | (simp; done))
            case hstore =>
              repeat' (first | rfl | refine env_cons ?_ ?_ | refine st_cons ?_ ?_ ?_ ?_ | refine int_eq ?_ | refine bool_eq ?_ | refine rsl_eq ?_ | refine osl_eq ?_ | refine sl_eq ?_ ?_ ?_ | refine ptr_eq ?_ ?_ ?_ | refine agg_eq ?_ | refine es_cons ?_ ?_ | refine row_cons ?_ ?_)
              all_goals (rw [hw])
            case hst =>
              rw [← hw] at hst hro
              exact ⟨hst, by omega, hro⟩
            case hm => omega
          · intro hb
            try simp only [hB, decide_eq_true_eq, decide_eq_false_iff_not] at hb
            rw [if_neg (by omega)] at hst hro
            obtain ⟨w, hw⟩ : ∃ w : RSt, w = ⟨u.s.set r.toNat true, u.l, u.q ++ [r]⟩ := ⟨_, rfl⟩
            refine AW.skip ?_
            refine hK18 _ _ _ ?_; clear hK18
            -- region 19
            refine AW.regionK 0 (fun _ => none) [0, 2, 3, 4, 7, 48, 49, 50] [15, 200, 201] ?_
            simp only [go_sem, reduceIte, reduceCtorEq, Nat.reduceAdd, Nat.reduceMul, Nat.reduceEqDiff, Nat.reduceLT, Nat.reduceLeDiff, Nat.reduceSub, Nat.reducePow, Nat.reduceBEq, Int.reduceToNat, List.reduceReplicate, ints_len, bools_len, hL, hR, hz, hnl, h1]
            repeat with_reducible refine cj ?_ ?_
            all_goals try first | omega
            rw [← hQl3]
            change Exists _
            refine ⟨_, ?hm, j + 1, ?_, ?_, ?_, ?_, ?_, ?_, w, rfl, ?henv, ?hstore, ?hst⟩
            case henv =>
              repeat' (first | rfl | refine env_cons ?_ ?_ | refine st_cons ?_ ?_ ?_ ?_ | refine int_eq ?_ | refine bool_eq ?_ | refine rsl_eq ?_ | refine osl_eq ?_ | refine sl_eq ?_ ?_ ?_ | refine ptr_eq ?_ ?_ ?_ | refine agg_eq ?_ | refine es_cons ?_ ?_ | refine row_cons ?_ ?_)
              all_goals (first | (rw [hw]; done) | (rw [hw]; simp; done) | omega | (simp; done))
            case hstore =>
              repeat' (first | rfl | refine env_cons ?_ ?_ | refine st_cons ?_ ?_ ?_ ?_ | refine int_eq ?_ | refine bool_eq ?_ | refine rsl_eq ?_ | refine osl_eq ?_ | refine sl_eq ?_ ?_ ?_ | refine ptr_eq ?_ ?_ ?_ | refine agg_eq ?_ | refine es_cons ?_ ?_ | refine row_cons ?_ ?_)
              all_goals (rw [hw])
            case hst =>
              rw [← hw] at hst hro
              exact ⟨hst, by omega, hro⟩
            case hm => omega
      · intro hb
        try simp only [hB, decide_eq_true_eq, decide_eq_false_iff_not] at hb
        have hj : j = row.length := by omega
        rw [hj, List.drop_length] at hro
        unfold rrow at hro
        subst hro
        refine AW.exit ?_
        rw [← hQl3]
        refine hK14 _ _ _ ?_; clear hK14
        -- region 10
        refine AW.regionK 0 (fun _ => none) [0, 2, 3, 4, 7] [15, 200, 201] ?_
        simp only [go_sem, reduceIte, reduceCtorEq, Nat.reduceAdd, Nat.reduceMul, Nat.reduceEqDiff, Nat.reduceLT, Nat.reduceLeDiff, Nat.reduceSub, Nat.reducePow, Nat.reduceBEq, Int.reduceToNat, List.reduceReplicate, ints_len, bools_len, hL, hR, hz, hnl, h1]
        repeat with_reducible refine cj ?_ ?_
        all_goals try first | omega
        rw [← hQl2]
        change Exists _
        refine ⟨_, ?hm, i + 1, fu, ?_, ?_, ?_, ?_, ?_, ?_, ?_, rfl, ?henv, ?hstore, ?hst⟩
        case henv =>
          repeat' (first | rfl | refine env_cons ?_ ?_ | refine st_cons ?_ ?_ ?_ ?_ | refine int_eq ?_ | refine bool_eq ?_ | refine rsl_eq ?_ | refine osl_eq ?_ | refine sl_eq ?_ ?_ ?_ | refine ptr_eq ?_ ?_ ?_ | refine agg_eq ?_ | refine es_cons ?_ ?_ | refine row_cons ?_ ?_)
          all_goals (first | (simp; done) | omega | (simp; omega))
        case hstore =>
          repeat' (first | rfl | refine env_cons ?_ ?_ | refine st_cons ?_ ?_ ?_ ?_ | refine int_eq ?_ | refine bool_eq ?_ | refine rsl_eq ?_ | refine osl_eq ?_ | refine sl_eq ?_ ?_ ?_ | refine ptr_eq ?_ ?_ ?_ | refine agg_eq ?_ | refine es_cons ?_ ?_ | refine row_cons ?_ ?_)
          all_goals (first | (simp; done) | omega | (simp; omega))
        case hst =>
          exact ⟨hiu, by obtain ⟨z, hz⟩ := hriv.2.1.hl; rw [hz, List.length_append]; omega, by have := hriv.2.1.hu; omega, hrun⟩
        case hm => omega
    · intro hb
      try simp only [hB, decide_eq_true_eq, decide_eq_false_iff_not] at hb
      have hTt : t = T := by
        cases fu with
        | zero => exact hrun
        | succ f => unfold rrun at hrun; rw [if_neg (by omega)] at hrun; exact hrun
      subst hTt
      refine AW.exit ?_
      rw [← hQl2]
      refine hK10 _ _ _ ?_; clear hK10
      refine AW.seq fun K25 hK25 => ?_
      -- region 20
      refine AW.regionK 0 (fun _ => none) [2, 3] [15, 200, 201] ?_
      simp only [go_sem, reduceIte, reduceCtorEq, Nat.reduceAdd, Nat.reduceMul, Nat.reduceEqDiff, Nat.reduceLT, Nat.reduceLeDiff, Nat.reduceSub, Nat.reducePow, Nat.reduceBEq, Int.reduceToNat, List.reduceReplicate, ints_len, bools_len, hL, hR, hz, hnl, h1]
      repeat with_reducible refine cj ?_ ?_
      all_goals try first | omega
      refine hK25 _ _ _ ?_; clear hK25
      refine AW.ret ?_
      rw [← hQr]
      simp only [go_sem, reduceIte, reduceCtorEq, Nat.reduceAdd, Nat.reduceMul, Nat.reduceEqDiff, Nat.reduceLT, Nat.reduceLeDiff, Nat.reduceSub, Nat.reducePow, Nat.reduceBEq, Int.reduceToNat, List.reduceReplicate, ints_len, bools_len, hL, hR, hz, hnl, h1]
      exact Wk.of_eq (by simp only [ints_all])
end Go.Proofs.M

/- Levels of an order; tables filled pair by pair. -/
namespace Go.AM
structure IsLev (n : Nat) (t : List (List Bool)) (o : List Int) : Prop where
  len : o.length = n
  pos : ∀ j, j < n → 0 ≤ o.getD j 0
  up : ∀ i j, i < n → j < n → atT t i j = true → o.getD i 0 + 1 ≤ o.getD j 0
  att : ∀ j, j < n → o.getD j 0 = 0 ∨ ∃ i, i < n ∧ atT t i j = true ∧ o.getD j 0 = o.getD i 0 + 1
theorem lev_le {n : Nat} {t : List (List Bool)} {o o' : List Int} (h : IsLev n t o) (hp : ∀ j, j < n → 0 ≤ o'.getD j 0) (hu : ∀ i j, i < n → j < n → atT t i j = true → o'.getD i 0 + 1 ≤ o'.getD j 0) :
    ∀ (m : Nat) (j : Nat), j < n → o.getD j 0 ≤ m → o.getD j 0 ≤ o'.getD j 0
  | 0, j, hj, hm => by have := hp j hj; omega
  | m + 1, j, hj, hm => by
    rcases h.att j hj with h0 | ⟨i, hi, ha, he⟩
    · have := hp j hj; omega
    · have := lev_le h hp hu m i hi (by omega)
      have := hu i j hi hj ha
      omega
/-! ### The program: along an order. -/
def levJ (i : Nat) (o : List Int) (j : Nat) : List Int := o.set j (max (o.getD j 0) (o.getD i 0 + 1))
def levS (t : List (List Bool)) (o : List Int) (i : Nat) : List Int := (memB (rowT t i)).foldl (levJ i) o
theorem levJ_len (i : Nat) (l : List Nat) : ∀ o : List Int, (l.foldl (levJ i) o).length = o.length := by
  induction l with
  | nil => intro o; rfl
  | cons a l ih => intro o; rw [List.foldl_cons, ih]; simp [levJ]
theorem levJ_get (i : Nat) : ∀ (l : List Nat) (o : List Int), l.Nodup → (∀ j ∈ l, j < o.length ∧ j ≠ i) → ∀ k, (l.foldl (levJ i) o).getD k 0 = if k ∈ l then max (o.getD k 0) (o.getD i 0 + 1) else o.getD k 0
  | [], o, _, _, k => by simp
  | a :: l, o, hn, hl, k => by
    have ha := hl a (List.mem_cons_self ..)
    have hn2 := List.nodup_cons.1 hn
    rw [List.foldl_cons, levJ_get i l _ hn2.2 (fun j hj => by have := hl j (List.mem_cons_of_mem _ hj); simpa [levJ] using this) k]
    have hi : (levJ i o a).getD i 0 = o.getD i 0 := Go.AM.getD_set_ne ha.2 ..
    rw [hi]
    by_cases e : a = k
    · subst e
      rw [if_neg hn2.1, if_pos (List.mem_cons_self ..)]
      exact Go.AM.getD_set_eq ha.1 _ _
    · have : (levJ i o a).getD k 0 = o.getD k 0 := Go.AM.getD_set_ne e ..
      rw [this]
      have e2 : (k ∈ a :: l) = (k ∈ l) := by
        apply propext; rw [List.mem_cons]; exact ⟨fun h => h.resolve_left (fun h => e h.symm), .inr⟩
      simp only [e2]
theorem memB_nodup (b : List Bool) : (memB b).Nodup := List.Pairwise.sublist List.filter_sublist List.nodup_range
theorem levS_len (t : List (List Bool)) (o : List Int) (i : Nat) : (levS t o i).length = o.length := levJ_len i _ o
theorem levS_get {n : Nat} {t : List (List Bool)} (hs : Sq n t) (hp : IsPo n t) {o : List Int} (ho : o.length = n) {i : Nat} (hi : i < n) {k : Nat} (hk : k < n) : (levS t o i).getD k 0 = if atT t i k = true then max (o.getD k 0) (o.getD i 0 + 1) else o.getD k 0 := by
  unfold levS
  rw [levJ_get i _ _ (memB_nodup _) (fun j hj => by
    have := memB_mem.1 hj
    rw [hs.rowLen hi] at this
    refine ⟨by omega, fun e => ?_⟩
    subst e
    have h2 := hp.irr _ hi
    unfold atT at h2
    rw [h2] at this
    exact absurd this.2 (by simp)) k]
  have e : (k ∈ memB (rowT t i)) = (atT t i k = true) := by
    apply propext; rw [memB_mem, hs.rowLen hi]; exact ⟨fun h => h.2, fun h => ⟨hk, h⟩⟩
  simp only [e]
structure LevI (n : Nat) (t : List (List Bool)) (pre : List Nat) (o : List Int) : Prop where
  len : o.length = n
  pos : ∀ j, j < n → 0 ≤ o.getD j 0
  up : ∀ i j, i ∈ pre → j < n → atT t i j = true → o.getD i 0 + 1 ≤ o.getD j 0
  att : ∀ j, j < n → o.getD j 0 = 0 ∨ ∃ i, i ∈ pre ∧ atT t i j = true ∧ o.getD j 0 = o.getD i 0 + 1
  bnd : ∀ j, j < n → o.getD j 0 ≤ pre.length
theorem LevI.nil (n : Nat) (t : List (List Bool)) : LevI n t [] (List.replicate n 0) := by
  have e : ∀ j, (List.replicate n (0 : Int)).getD j 0 = 0 := fun j => by rw [List.getD_eq_getElem?_getD, List.getElem?_replicate]; split <;> rfl
  exact ⟨by simp, fun j _ => by rw [e]; exact Int.le_refl _, (fun i j h => absurd h List.not_mem_nil), fun j _ => Or.inl (e j), fun j _ => by rw [e]; simp⟩
theorem nodup_ix {l : List Nat} (h : l.Nodup) {p q : Nat} (hp : p < l.length) (hq : q < l.length) (e : l[p] = l[q]) : p = q := (List.getElem_inj h).1 e
/-- What stands before: the elements of a list that is closed downwards. -/
theorem LevI.snoc {n : Nat} {t : List (List Bool)} (hs : Sq n t) (hp : IsPo n t) {pre : List Nat} {o : List Int} (h : LevI n t pre o) {i : Nat} (hi : i < n) (hin : i ∉ pre) (hpr : ∀ k ∈ pre, k < n) (hcl : ∀ k, k ∈ pre → atT t i k = false) : LevI n t (pre ++ [i]) (levS t o i) := by
  have hg := fun k hk => levS_get (k := k) hs hp h.len hi hk
  have hgi : (levS t o i).getD i 0 = o.getD i 0 := by rw [hg i hi, hp.irr i hi]; simp
  have hgp : ∀ k, k ∈ pre → (levS t o i).getD k 0 = o.getD k 0 := fun k hk => by rw [hg k (hpr k hk), hcl k hk]; simp
  have hge : ∀ k, k < n → o.getD k 0 ≤ (levS t o i).getD k 0 := fun k hk => by rw [hg k hk]; split <;> omega
  refine ⟨by rw [levS_len, h.len], fun j hj => Int.le_trans (h.pos j hj) (hge j hj), fun k j hk hj ha => ?_, fun j hj => ?_, fun j hj => ?_⟩
  · rcases List.mem_append.1 hk with hk | hk
    · rw [hgp k hk]
      exact Int.le_trans (h.up k j hk hj ha) (hge j hj)
    · obtain rfl := List.mem_singleton.1 hk
      rw [hgi, hg j hj, if_pos ha]
      omega
  · rw [hg j hj]
    have hold : o.getD j 0 = 0 ∨ ∃ k, k ∈ pre ++ [i] ∧ atT t k j = true ∧ o.getD j 0 = (levS t o i).getD k 0 + 1 := by
      rcases h.att j hj with h0 | ⟨k, hk, ha, he⟩
      · exact .inl h0
      · exact .inr ⟨k, List.mem_append_left _ hk, ha, by rw [hgp k hk]; exact he⟩
    split
    · rename_i ha
      by_cases hm : o.getD i 0 + 1 ≤ o.getD j 0
      · rw [Int.max_eq_left hm]; exact hold
      · rw [Int.max_eq_right (by omega)]
        exact .inr ⟨i, List.mem_append_right _ (List.mem_singleton.2 rfl), ha, by rw [hgi]⟩
    · exact hold
  · rw [hg j hj, List.length_append]
    have h1 := h.bnd j hj
    have h2 := h.bnd i hi
    simp only [List.length_singleton, Int.natCast_add, Int.natCast_one]
    split <;> omega
theorem LevI.all {n : Nat} {t : List (List Bool)} (hs : Sq n t) (hp : IsPo n t) {l : List Nat} (ho : OrdI n t l) : ∀ k, k ≤ l.length → LevI n t (l.take k) ((l.take k).foldl (levS t) (List.replicate n 0))
  | 0, _ => by simpa using LevI.nil n t
  | k + 1, hk => by
    have ih := LevI.all hs hp ho k (by omega)
    have e : l.take (k + 1) = l.take k ++ [l[k]] := by rw [List.take_succ_eq_append_getElem (by omega)]
    rw [e, List.foldl_append]
    have hm : l[k] ∈ l := List.getElem_mem ..
    have hin : ∀ x ∈ l, x < n := ho.rng
    refine LevI.snoc hs hp ih (hin _ hm) ?_ (fun x hx => hin x (List.mem_of_mem_take hx)) fun x hx => ?_
    · intro hx
      obtain ⟨q, hq, hqe⟩ := List.mem_iff_getElem.1 hx
      have hql : q < k := by simp at hq; omega
      rw [List.getElem_take] at hqe
      exact absurd (nodup_ix ho.nd (by omega) (by omega) hqe) (by omega)
    · cases ea : atT t l[k] x
      · rfl
      · exfalso
        obtain ⟨q, hq, hqe⟩ := List.mem_iff_getElem.1 hx
        have hql : q < k := by simp at hq; omega
        rw [List.getElem_take] at hqe
        obtain ⟨p, hp1, hp2⟩ := ho.top q x l[k] (by rw [List.getElem?_eq_getElem (by omega), hqe]) (hin _ hm) ea
        rw [List.getElem?_eq_getElem (by omega)] at hp2
        exact absurd (nodup_ix ho.nd (by omega) (by omega) (Option.some.inj hp2)) (by omega)
/-! ### The reference: rounds. -/
def relJ (t : List (List Bool)) (i j : Nat) (o : List Int) : List Int := if atT t i j = true ∧ o.getD j 0 ≤ o.getD i 0 then o.set j (o.getD i 0 + 1) else o
structure RndI (n : Nat) (t : List (List Bool)) (L : List Int) (r : Nat) (vis : Nat → Nat → Prop) (c : Bool) (o : List Int) : Prop where
  len : o.length = n
  pos : ∀ j, j < n → 0 ≤ o.getD j 0
  le : ∀ j, j < n → o.getD j 0 ≤ L.getD j 0
  low : ∀ j, j < n → min (L.getD j 0) r ≤ o.getD j 0
  nxt : ∀ i j, i < n → j < n → vis i j → atT t i j = true → min (L.getD i 0) r + 1 ≤ o.getD j 0
  same : c = false → ∀ i j, i < n → j < n → vis i j → atT t i j = true → o.getD i 0 < o.getD j 0
theorem RndI.start {n : Nat} {t : List (List Bool)} {L : List Int} (hL : IsLev n t L) : RndI n t L 0 (fun _ _ => False) false (List.replicate n 0) := by
  have e : ∀ j, (List.replicate n (0 : Int)).getD j 0 = 0 := fun j => by rw [List.getD_eq_getElem?_getD, List.getElem?_replicate]; split <;> rfl
  refine ⟨by simp, fun j _ => by rw [e]; exact Int.le_refl _, fun j hj => by rw [e]; exact hL.pos j hj, fun j hj => ?_, fun _ _ _ _ h => h.elim, fun _ _ _ _ _ h => h.elim⟩
  rw [e]; have := hL.pos j hj; omega
theorem RndI.step {n : Nat} {t : List (List Bool)} {L : List Int} (hL : IsLev n t L) (hp : IsPo n t) {r : Nat} {vis vis' : Nat → Nat → Prop} {c : Bool} {o : List Int} (h : RndI n t L r vis c o) {i j : Nat} (hi : i < n) (hj : j < n)
    (hv : ∀ a b, vis' a b → vis a b ∨ (a = i ∧ b = j)) :
    RndI n t L r vis' (c || (atT t i j && decide (o.getD j 0 ≤ o.getD i 0))) (relJ t i j o) := by
  unfold relJ
  by_cases hc : atT t i j = true ∧ o.getD j 0 ≤ o.getD i 0
  · have hne : i ≠ j := fun e => by subst e; have := hp.irr _ hi; rw [this] at hc; exact absurd hc.1 (by simp)
    rw [if_pos hc]
    have hg : ∀ k, (o.set j (o.getD i 0 + 1)).getD k 0 = if k = j then o.getD i 0 + 1 else o.getD k 0 := fun k => by
      by_cases e : k = j
      · subst e; rw [if_pos rfl]; exact Go.AM.getD_set_eq (by rw [h.len]; exact hj) _ _
      · rw [if_neg e]; exact Go.AM.getD_set_ne (fun q => e q.symm) ..
    have hge : ∀ k, k < n → o.getD k 0 ≤ (o.set j (o.getD i 0 + 1)).getD k 0 := fun k _ => by rw [hg]; split; (rename_i e; subst e; omega); exact Int.le_refl _
    refine ⟨by simp [h.len], fun k hk => Int.le_trans (h.pos k hk) (hge k hk), fun k hk => ?_, fun k hk => Int.le_trans (h.low k hk) (hge k hk), fun a b ha hb hab hat => ?_, fun hf => ?_⟩
    · rw [hg]
      split
      · rename_i e; subst e
        have := h.le i hi
        have := hL.up i _ hi hj hc.1
        omega
      · exact h.le k hk
    · rcases hv a b hab with h1 | ⟨rfl, rfl⟩
      · exact Int.le_trans (h.nxt a b ha hb h1 hat) (hge b hb)
      · rw [hg, if_pos rfl]
        have := h.low a ha
        omega
    · exfalso; rw [hc.1, decide_eq_true hc.2] at hf; simp at hf
  · rw [if_neg hc]
    refine ⟨h.len, h.pos, h.le, h.low, fun a b ha hb hab hat => ?_, fun hf a b ha hb hab hat => ?_⟩
    · rcases hv a b hab with h1 | ⟨rfl, rfl⟩
      · exact h.nxt a b ha hb h1 hat
      · have := h.low a ha
        have : ¬ o.getD b 0 ≤ o.getD a 0 := fun q => hc ⟨hat, q⟩
        omega
    · rcases hv a b hab with h1 | ⟨rfl, rfl⟩
      · exact h.same (by rw [Bool.or_eq_false_iff] at hf; exact hf.1) a b ha hb h1 hat
      · have : ¬ o.getD b 0 ≤ o.getD a 0 := fun q => hc ⟨hat, q⟩
        omega
theorem RndI.stop {n : Nat} {t : List (List Bool)} {L : List Int} (hL : IsLev n t L) {r : Nat} {vis : Nat → Nat → Prop} {o : List Int} (h : RndI n t L r vis false o) (hv : ∀ i j, i < n → j < n → vis i j) : o = L := by
  refine getD_ext (by rw [h.len, hL.len]) fun k hk => ?_
  rw [h.len] at hk
  have h1 := lev_le hL h.pos (fun i j hi hj ha => by have := h.same rfl i j hi hj (hv i j hi hj) ha; omega) (L.getD k 0).toNat k hk (by have := hL.pos k hk; omega)
  have h2 := h.le k hk
  omega
/-! ### Tables filled pair by pair. -/
end Go.AM

/- Rows made of lists of members. -/
namespace Go.AM
def rowL (n : Nat) (l : List Int) : List Bool := setR n fun i => decide ((i : Int) ∈ l)
theorem rowL_len (n : Nat) (l : List Int) : (rowL n l).length = n := setR_len _ _
theorem rowL_get {n : Nat} {l : List Int} {i : Nat} (h : i < n) : (rowL n l).getD i false = decide ((i : Int) ∈ l) := setR_get h
theorem fold_setBit {n : Nat} : ∀ (l : List Int) (b : List Bool), b.length = n → (∀ x ∈ l, 0 ≤ x ∧ x < n) → l.foldl setBit (setW b n) = setW (l.foldl (fun b x => b.set x.toNat true) b) n
  | [], _, _, _ => rfl
  | x :: l, b, hb, hl => by
    have hx := hl x (List.mem_cons_self ..)
    have h1 := setBit_setW b (i := x.toNat) (by omega)
    rw [hb, Int.toNat_of_nonneg hx.1] at h1
    rw [List.foldl_cons, List.foldl_cons, h1]
    exact fold_setBit l _ (by simp [hb]) fun y hy => hl y (List.mem_cons_of_mem _ hy)
theorem fold_set_get {n : Nat} : ∀ (l : List Int) (b : List Bool), b.length = n → (∀ x ∈ l, 0 ≤ x ∧ x < n) → (l.foldl (fun b x => b.set x.toNat true) b).length = n ∧ ∀ i, i < n → (l.foldl (fun b x => b.set x.toNat true) b).getD i false = (b.getD i false || decide ((i : Int) ∈ l))
  | [], b, hb, _ => ⟨hb, fun i _ => by simp⟩
  | x :: l, b, hb, hl => by
    have hx := hl x (List.mem_cons_self ..)
    obtain ⟨h1, h2⟩ := fold_set_get l (b.set x.toNat true) (by simp [hb]) fun y hy => hl y (List.mem_cons_of_mem _ hy)
    refine ⟨h1, fun i hi => ?_⟩
    rw [List.foldl_cons, h2 i hi, getD_setB]
    by_cases e : x = (i : Int)
    · rw [if_pos ⟨by omega, by omega⟩, decide_eq_true (show (i : Int) ∈ x :: l by rw [e]; exact List.mem_cons_self ..)]; simp
    · rw [if_neg (by omega)]
      congr 1
      refine decide_eq_decide.2 ?_
      rw [List.mem_cons]
      exact ⟨.inr, fun h => h.resolve_left fun h => e h.symm⟩
theorem ofW_row {n : Nat} {l : List Int} (hl : ∀ x ∈ l, 0 ≤ x ∧ x < n) : ofW n l = setW (rowL n l) n := by
  have hz := setW_zero n
  have h1 := fold_setBit l (List.replicate n false) (by simp) hl
  rw [hz] at h1
  have h2 := fold_set_get l (List.replicate n false) (by simp) hl
  unfold ofW
  rw [h1]
  congr 1
  refine getD_extB (by rw [h2.1, rowL_len]) fun i hi => ?_
  rw [h2.1] at hi
  rw [h2.2 i hi, rowL_get hi]
  have e : (List.replicate n false).getD i false = false := by rw [List.getD_eq_getElem?_getD, List.getElem?_replicate]; split <;> rfl
  rw [e, Bool.false_or]
end Go.AM

namespace Go.Proofs.M
open Go.AM Go
set_option maxRecDepth 100000
set_option maxHeartbeats 2000000
theorem contains_r (l : List Int) (x : Int) (hl : l.length ≤ 9223372036854775807) : Reads Try.prog 34 false [.rsl 1 (ints l), .int .i64 x] (.bool (decide (x ∈ l))) := by
  have hi := index_r l x hl
  have hg := ixf_ge (fun y => decide (x = y)) l
  refine Reads.body (rs := [.tmp 4]) Try.func34 rfl Try.ntmps34 rfl (by simp) ?_
  generalize hQr : retQ _ _ _ = Qr
  refine AW.seq fun K1 hK1 => ?_
  -- region 0
  refine AW.regionK 0 (fun _ => none) [0, 1] [] ?_
  simp only [go_sem, reduceIte, reduceCtorEq, Nat.reduceAdd, Nat.reduceMul, Nat.reduceEqDiff, Nat.reduceLT, Nat.reduceLeDiff, Nat.reduceSub, Nat.reducePow, Nat.reduceBEq, Int.reduceToNat, List.reduceReplicate]
  repeat with_reducible refine cj ?_ ?_
  all_goals try first | omega
  refine hK1 _ _ _ ?_; clear hK1
  refine AW.seq fun K2 hK2 => ?_
  -- region 1
  refine AW.regionK 0 (fun ii => if ii = 2 then some (.reads false (.int .i64 (ixf (fun y => decide (x = y)) l))) else none) [4] [] ?_
  simp only [go_sem, reduceIte, reduceCtorEq, Nat.reduceAdd, Nat.reduceMul, Nat.reduceEqDiff, Nat.reduceLT, Nat.reduceLeDiff, Nat.reduceSub, Nat.reducePow, Nat.reduceBEq, Int.reduceToNat, List.reduceReplicate]
  repeat with_reducible refine cj ?_ ?_
  all_goals try first | (exact hi) | omega | exact ent (by kernel_rfl)
  refine hK2 _ _ _ ?_; clear hK2
  refine AW.ret ?_
  rw [← hQr]
  simp only [go_sem, reduceIte, reduceCtorEq, Nat.reduceAdd, Nat.reduceMul, Nat.reduceEqDiff, Nat.reduceLT, Nat.reduceLeDiff, Nat.reduceSub, Nat.reducePow, Nat.reduceBEq, Int.reduceToNat, List.reduceReplicate]
  exact Wk.of_eq (by rw [hg]; congr 1; rw [List.any_eq, decide_eq_decide]; simp)
theorem of_b {n : Nat} (l : List Int) (h1 : n ≤ 512) (hl : l.length ≤ 9223372036854775807) (hr : ∀ i ∈ l, 0 ≤ i ∧ i < (n : Int)) :
    Reads Try.prog 35 true [.int .i64 n, .rsl 1 (ints l)] (.tup [.agg [.int .i64 n, .rsl 1 (words (setW (rowL n l) n))], .int .i64 0]) := by
  have := of_r (n : Int) l (by omega) (by omega) hl hr
  rw [ofW_row hr] at this
  exact this
def restI (l : List Int) (j : Nat) : List Int := ((List.range j).filter fun i => !decide (((i : Nat) : Int) ∈ l)).map fun (i : Nat) => (i : Int)
theorem restI_succ (l : List Int) (j : Nat) : restI l (j + 1) = if decide ((j : Int) ∈ l) = true then restI l j else restI l j ++ [(j : Int)] := by
  unfold restI
  rw [List.range_succ, List.filter_append, List.map_append]
  by_cases h : (j : Int) ∈ l
  · rw [if_pos (by simpa using h)]; simp [h]
  · rw [if_neg (by simpa using h)]; simp [h]
theorem restI_le (l : List Int) (j : Nat) : (restI l j).length ≤ j := by
  unfold restI
  rw [List.length_map]
  have := List.length_filter_le (fun i => !decide (((i : Nat) : Int) ∈ l)) (List.range j)
  simpa using this
theorem restI_mem (l : List Int) (j : Nat) (x : Int) : x ∈ restI l j ↔ ∃ i : Nat, x = i ∧ i < j ∧ (i : Int) ∉ l := by
  simp only [restI, List.mem_map, List.mem_filter, List.mem_range, Bool.not_eq_true', decide_eq_false_iff_not]
  constructor
  · rintro ⟨i, ⟨h1, h2⟩, rfl⟩; exact ⟨i, rfl, h1, h2⟩
  · rintro ⟨i, rfl, h1, h2⟩; exact ⟨i, ⟨h1, h2⟩, rfl⟩
/-- The nodes that Cover and Hall see. -/
def rchM (n m : Nat) (E : List (Int × Int)) : RSt := reachP (nbOf n E) (maxLR (nbOf n E) n m n).1 (maxLR (nbOf n E) n m n).2 n m
def cvL (n m : Nat) (E : List (Int × Int)) : List Bool := rowL n (restI (rchM n m E).l n)
def cvR (n m : Nat) (E : List (Int × Int)) : List Bool := rowL m (rchM n m E).q
theorem hall_bad (n m : Int) (E : List (Int × Int)) (hl : E.length ≤ 9223372036854775807) (hv : validM n m E = false) : Reads Try.prog 20 false [.int .i64 n, .int .i64 m, .rsl 2 (E.map pairV)] (.tup [.agg [.int .i64 0, .nilsl], .int .i64 1]) := by
  have hvr := mvalid_r n m E hl
  rw [hv] at hvr
  refine Reads.body (rs := [.cell 6 30, .tmp 7]) Try.func20 rfl Try.ntmps20 rfl (by simp) ?_
  generalize hQr : retQ _ _ _ = Qr
  refine AW.seq fun K1 hK1 => ?_
  -- region 0
  refine AW.regionK 0 (fun _ => none) [0, 1, 2, 6] [6] ?_
  simp only [go_sem, reduceIte, reduceCtorEq, Nat.reduceAdd, Nat.reduceMul, Nat.reduceEqDiff, Nat.reduceLT, Nat.reduceLeDiff, Nat.reduceSub, Nat.reducePow, Nat.reduceBEq, Int.reduceToNat, List.reduceReplicate]
  repeat with_reducible refine cj ?_ ?_
  all_goals try first | omega
  refine hK1 _ _ _ ?_; clear hK1
  refine AW.seq fun K2 hK2 => ?_
  refine AW.seq fun K3 hK3 => ?_
  -- region 1
  refine AW.regionK 0 (fun ii => if ii = 3 then some (.reads false (.bool false)) else none) [0, 1, 2, 6, 14] [6] ?_
  simp only [go_sem, reduceIte, reduceCtorEq, Nat.reduceAdd, Nat.reduceMul, Nat.reduceEqDiff, Nat.reduceLT, Nat.reduceLeDiff, Nat.reduceSub, Nat.reducePow, Nat.reduceBEq, Int.reduceToNat, List.reduceReplicate]
  repeat with_reducible refine cj ?_ ?_
  all_goals try first | (exact hvr) | omega | exact ent (by kernel_rfl)
  refine hK3 _ _ _ ?_; clear hK3
  -- cond 1
  refine AW.cond rfl (by simp only [go_sem, reduceIte, reduceCtorEq, Nat.reduceAdd, Nat.reduceMul, Nat.reduceEqDiff, Nat.reduceLT, Nat.reduceLeDiff, Nat.reduceSub, Nat.reducePow, Nat.reduceBEq, Int.reduceToNat, List.reduceReplicate]) ?_ ?_
  · intro hb
    try simp only [hB, decide_eq_true_eq, decide_eq_false_iff_not] at hb
    refine AW.seq fun K4 hK4 => ?_
    -- region 2
    refine AW.regionK 0 (fun _ => none) [6, 7] [6] ?_
    simp only [go_sem, reduceIte, reduceCtorEq, Nat.reduceAdd, Nat.reduceMul, Nat.reduceEqDiff, Nat.reduceLT, Nat.reduceLeDiff, Nat.reduceSub, Nat.reducePow, Nat.reduceBEq, Int.reduceToNat, List.reduceReplicate]
    repeat with_reducible refine cj ?_ ?_
    all_goals try first | omega
    refine hK4 _ _ _ ?_; clear hK4
    refine AW.ret ?_
    rw [← hQr]
    simp only [go_sem, reduceIte, reduceCtorEq, Nat.reduceAdd, Nat.reduceMul, Nat.reduceEqDiff, Nat.reduceLT, Nat.reduceLeDiff, Nat.reduceSub, Nat.reducePow, Nat.reduceBEq, Int.reduceToNat, List.reduceReplicate]
    exact Wk.refl _
  · intro hb
    try simp only [hB, decide_eq_true_eq, decide_eq_false_iff_not] at hb
    exact absurd hb (by simp)
structure Gd (n m : Nat) (E : List (Int × Int)) : Prop where
  hn : n ≤ 512
  hm : m ≤ 512
  hl : E.length ≤ 2000
  hE : ∀ e ∈ E, edgeIn n m e = true
  hnd : E.Nodup
theorem gd_of {n m : Int} {E : List (Int × Int)} (hv : validM n m E = true) : ∃ a b : Nat, n = a ∧ m = b ∧ Gd a b E := by
  simp only [validM, sizesM, Bool.and_eq_true, decide_eq_true_eq, List.all_eq_true] at hv
  obtain ⟨⟨⟨⟨⟨q1, q2⟩, q3⟩, q4⟩, q5⟩, q6, q7⟩ := hv
  obtain ⟨a, rfl⟩ : ∃ a : Nat, n = a := ⟨n.toNat, by omega⟩
  obtain ⟨b, rfl⟩ : ∃ b : Nat, m = b := ⟨m.toNat, by omega⟩
  exact ⟨a, b, rfl, rfl, by omega, by omega, q5, q6, q7⟩
theorem Gd.valid {n m : Nat} {E : List (Int × Int)} (h : Gd n m E) : validM n m E = true := by
  have h1 := h.hn
  have h2 := h.hm
  simp only [validM, sizesM, Bool.and_eq_true, decide_eq_true_eq, List.all_eq_true]
  exact ⟨⟨⟨⟨⟨by omega, by omega⟩, by omega⟩, by omega⟩, h.hl⟩, h.hE, h.hnd⟩
theorem Gd.rng {n m : Nat} {E : List (Int × Int)} (h : Gd n m E) : ∀ row ∈ nbOf n E, ∀ r ∈ row, 0 ≤ r ∧ r < (m : Int) := nbOf_rng fun e he => by have := edgeIn_iff.1 (h.hE e he); omega
theorem Gd.row {n m : Nat} {E : List (Int × Int)} (h : Gd n m E) : ∀ row ∈ nbOf n E, row.length ≤ 100000 := fun row hr => by have := nbOf_row n E row hr; have := h.hl; omega
theorem Gd.max {n m : Nat} {E : List (Int × Int)} (h : Gd n m E) : Mch n m (nbOf n E) (maxLR (nbOf n E) n m n).1 (maxLR (nbOf n E) n m n).2 ∧ NoAug (nbOf n E) n (maxLR (nbOf n E) n m n).1 (maxLR (nbOf n E) n m n).2 := maxLR_max (nbOf_len n E) h.rng
theorem Gd.rch {n m : Nat} {E : List (Int × Int)} (h : Gd n m E) : RIv n m (nbOf n E) (maxLR (nbOf n E) n m n).1 (maxLR (nbOf n E) n m n).2 (rchM n m E) := (reachP_spec (nbOf_len n E) h.rng h.max.1).1
theorem Gd.rngL {n m : Nat} {E : List (Int × Int)} (h : Gd n m E) : ∀ x ∈ (rchM n m E).l, 0 ≤ x ∧ x < (n : Int) := fun x hx => by
  obtain ⟨i, rfl, h1, _⟩ := h.rch.hl x hx; omega
theorem Gd.rngQ {n m : Nat} {E : List (Int × Int)} (h : Gd n m E) : ∀ x ∈ (rchM n m E).q, 0 ≤ x ∧ x < (m : Int) := fun x hx => by
  obtain ⟨i, rfl, h1, _⟩ := h.rch.hq x hx; omega
theorem cover_good {n m : Nat} {E : List (Int × Int)} (h : Gd n m E) : Reads Try.prog 12 false [.int .i64 n, .int .i64 m, .rsl 2 (E.map pairV)] (.tup [.agg [.int .i64 n, .rsl 1 (words (setW (cvL n m E) n))], .agg [.int .i64 m, .rsl 1 (words (setW (cvR n m E) m))], .int .i64 0]) := by
  have hn := h.hn
  have hm := h.hm
  have hvr := mvalid_r n m E (by have := h.hl; omega)
  rw [h.valid] at hvr
  have hmx := maximum_u hn hm h.hE h.hl
  have hre := reached_r hn hm (nbOf_len n E) h.rng h.row h.max.1
  have hrl := h.rngL
  have hrq := h.rngQ
  have hlen := h.rch.hlen
  have hlq := h.rch.hlq
  have hLn := h.max.1.hL
  have hRm := h.max.1.hR
  unfold cvL cvR
  rw [show reachP (nbOf n E) (maxLR (nbOf n E) n m n).1 (maxLR (nbOf n E) n m n).2 n m = rchM n m E from rfl] at hre
  generalize rchM n m E = T at *
  generalize maxLR (nbOf n E) n m n = x at *
  obtain ⟨L, R⟩ := x
  unfold graphS at hmx
  simp only at hmx hre hLn hRm ⊢
  generalize nbR (nbOf n E) = X at *
  have htL : (ints L).take n = ints L := List.take_of_length_le (by rw [ints_len]; omega)
  have htR : (ints R).take m = ints R := List.take_of_length_le (by rw [ints_len]; omega)
  have hoq := of_b T.q hm (by omega) hrq
  refine Reads.body (rs := [.cell 6 30, .cell 7 30, .tmp 8]) Try.func12 rfl Try.ntmps12 rfl (by simp) ?_
  generalize hQr : retQ _ _ _ = Qr
  refine AW.seq fun K1 hK1 => ?_
  -- region 0
  refine AW.regionK 0 (fun _ => none) [0, 1, 2, 6, 7] [6, 7] ?_
  simp only [go_sem, reduceIte, reduceCtorEq, Nat.reduceAdd, Nat.reduceMul, Nat.reduceEqDiff, Nat.reduceLT, Nat.reduceLeDiff, Nat.reduceSub, Nat.reducePow, Nat.reduceBEq, Int.reduceToNat, List.reduceReplicate, ints_len]
  repeat with_reducible refine cj ?_ ?_
  all_goals try first | omega
  refine hK1 _ _ _ ?_; clear hK1
  refine AW.seq fun K2 hK2 => ?_
  refine AW.seq fun K3 hK3 => ?_
  -- region 1
  refine AW.regionK 0 (fun ii => if ii = 3 then some (.reads false (.bool true)) else none) [0, 1, 2, 6, 7, 17] [6, 7] ?_
  simp only [go_sem, reduceIte, reduceCtorEq, Nat.reduceAdd, Nat.reduceMul, Nat.reduceEqDiff, Nat.reduceLT, Nat.reduceLeDiff, Nat.reduceSub, Nat.reducePow, Nat.reduceBEq, Int.reduceToNat, List.reduceReplicate, ints_len]
  repeat with_reducible refine cj ?_ ?_
  all_goals try first | (exact hvr) | omega | exact ent (by kernel_rfl)
  refine hK3 _ _ _ ?_; clear hK3
  -- cond 1
  refine AW.cond rfl (by simp only [go_sem, reduceIte, reduceCtorEq, Nat.reduceAdd, Nat.reduceMul, Nat.reduceEqDiff, Nat.reduceLT, Nat.reduceLeDiff, Nat.reduceSub, Nat.reducePow, Nat.reduceBEq, Int.reduceToNat, List.reduceReplicate]) ?_ ?_
  · intro hb
    try simp only [hB, decide_eq_true_eq, decide_eq_false_iff_not] at hb
    exact absurd hb (by simp)
  · intro hb
    try simp only [hB, decide_eq_true_eq, decide_eq_false_iff_not] at hb
    refine AW.skip ?_
    refine hK2 _ _ _ ?_; clear hK2
    refine AW.seq fun K4 hK4 => ?_
    -- region 3
    refine AW.regionK 0 (fun ii => if ii = 3 then some (.upd [] (fun k => [(0, some ⟨k, k, 3, [[.rsl 1 X, .sl ⟨1, k, none⟩ 0 n none, .sl ⟨2, k, none⟩ 0 m none]]⟩), (1, some ⟨k, k, 1, ints L⟩), (2, some ⟨k, k, 1, ints R⟩)]) (fun k => .ptr ⟨0, k, none⟩ 0 0)) else if ii = 4 then some (.upd [24, 1024, 2024] (fun _ => []) (fun _ => .tup [.rsl 1 (ints T.l), .rsl 1 (ints T.q)])) else none) [0, 1, 6, 7, 9, 10] [6, 7] ?_
    simp only [go_sem, reduceIte, reduceCtorEq, Nat.reduceAdd, Nat.reduceMul, Nat.reduceEqDiff, Nat.reduceLT, Nat.reduceLeDiff, Nat.reduceSub, Nat.reducePow, Nat.reduceBEq, Int.reduceToNat, List.reduceReplicate, ints_len]
    repeat with_reducible refine cj ?_ ?_
    all_goals try first | (first | exact hmx | exact hre.upd (by simp only [List.map_cons, List.map_nil, go_sem, reduceIte, Nat.reduceEqDiff, htL, htR, vwc_ints])) | omega | exact ent (by kernel_rfl)
    refine hK4 _ _ _ ?_; clear hK4
    refine AW.seq fun K5 hK5 => ?_
    -- region 4
    refine AW.regionK 0 (fun _ => none) [0, 1, 6, 7, 9, 10, 11] [6, 7] ?_
    simp only [go_sem, reduceIte, reduceCtorEq, Nat.reduceAdd, Nat.reduceMul, Nat.reduceEqDiff, Nat.reduceLT, Nat.reduceLeDiff, Nat.reduceSub, Nat.reducePow, Nat.reduceBEq, Int.reduceToNat, List.reduceReplicate, ints_len]
    repeat with_reducible refine cj ?_ ?_
    all_goals try first | omega
    refine hK5 _ _ _ ?_; clear hK5
    refine AW.seq fun K6 hK6 => ?_
    refine AW.seq fun K7 hK7 => ?_
    -- region 5
    refine AW.regionK 0 (fun _ => none) [0, 1, 6, 7, 9, 10, 11, 28, 29] [6, 7] ?_
    simp only [go_sem, reduceIte, reduceCtorEq, Nat.reduceAdd, Nat.reduceMul, Nat.reduceEqDiff, Nat.reduceLT, Nat.reduceLeDiff, Nat.reduceSub, Nat.reducePow, Nat.reduceBEq, Int.reduceToNat, List.reduceReplicate, ints_len]
    repeat with_reducible refine cj ?_ ?_
    all_goals try first | omega
    refine hK7 _ _ _ ?_; clear hK7
    refine AW.block ?_
    refine AW.nilOwn 11 200 1 (by simp only [go_sem, reduceIte, Nat.reduceEqDiff]) ?_
    refine AW.keep [0, 1, 6, 7, 9, 10, 11, 28, 29] [6, 7, 200] ?_
    simp only [go_sem, reduceIte, Nat.reduceEqDiff]
    -- loop 1
    refine AW.loopE (fun mm ee ss kk => ∃ (j g6 v6 g7 v7 g v : Nat), n - j = mm ∧ ee = [(0, .int .i64 n), (1, .int .i64 m), (6, .ptr ⟨6, g6, none⟩ 0 0), (7, .ptr ⟨7, g7, none⟩ 0 0), (9, .rsl 1 (ints T.l)), (10, .rsl 1 (ints T.q)), (11, .sl ⟨200, g, none⟩ 0 (restI T.l j).length none), (28, .int .i64 n), (29, .int .i64 (j : Nat))] ∧ ss = [(6, some ⟨g6, v6, 2, [[.int .i64 0, .nilsl]]⟩), (7, some ⟨g7, v7, 2, [[.int .i64 0, .nilsl]]⟩), (200, some ⟨g, v, 1, ints (restI T.l j)⟩)] ∧ (j ≤ n)) ?_ ?_
    · refine ⟨_, 0, ?_, ?_, ?_, ?_, ?_, ?_, rfl, ?henv, ?hstore, ?hst⟩
      case henv =>
        repeat' (first | rfl | refine env_cons ?_ ?_ | refine st_cons ?_ ?_ ?_ ?_ | refine int_eq ?_ | refine bool_eq ?_ | refine rsl_eq ?_ | refine osl_eq ?_ | refine sl_eq ?_ ?_ ?_ | refine ptr_eq ?_ ?_ ?_ | refine agg_eq ?_ | refine es_cons ?_ ?_ | refine row_cons ?_ ?_)
        all_goals (first | (simp; done) | omega | (simp; omega))
      case hstore =>
        repeat' (first | rfl | refine env_cons ?_ ?_ | refine st_cons ?_ ?_ ?_ ?_ | refine int_eq ?_ | refine bool_eq ?_ | refine rsl_eq ?_ | refine osl_eq ?_ | refine sl_eq ?_ ?_ ?_ | refine ptr_eq ?_ ?_ ?_ | refine agg_eq ?_ | refine es_cons ?_ ?_ | refine row_cons ?_ ?_)
        all_goals (first | (simp; done) | omega | (simp; omega))
      case hst =>
        first | trivial | omega | (simp; done) | (simp; omega)
    rintro mm ee ss kk ⟨j, g6, v6, g7, v7, g, v, rfl, rfl, rfl, hI⟩
    generalize hQl1 : thenQ _ _ = Ql1
    refine AW.seq fun K8 hK8 => ?_
    -- region 6
    refine AW.regionK 0 (fun _ => none) [0, 1, 6, 7, 9, 10, 11, 28, 29, 30] [6, 7, 200] ?_
    simp only [go_sem, reduceIte, reduceCtorEq, Nat.reduceAdd, Nat.reduceMul, Nat.reduceEqDiff, Nat.reduceLT, Nat.reduceLeDiff, Nat.reduceSub, Nat.reducePow, Nat.reduceBEq, Int.reduceToNat, List.reduceReplicate, ints_len]
    repeat with_reducible refine cj ?_ ?_
    all_goals try first | omega
    refine hK8 _ _ _ ?_; clear hK8
    refine AW.seq fun K9 hK9 => ?_
    -- cond 2
    refine AW.cond rfl (by simp only [go_sem, reduceIte, reduceCtorEq, Nat.reduceAdd, Nat.reduceMul, Nat.reduceEqDiff, Nat.reduceLT, Nat.reduceLeDiff, Nat.reduceSub, Nat.reducePow, Nat.reduceBEq, Int.reduceToNat, List.reduceReplicate]) ?_ ?_
    · intro hb
      try simp only [hB, decide_eq_true_eq, decide_eq_false_iff_not] at hb
      have hco := contains_r T.l (j : Int) (by omega)
      have hsu := restI_succ T.l j
      have hle := restI_le T.l j
      have htk := ints_all (restI T.l j)
      have hsn := ints_snoc (restI T.l j) (j : Int)
      generalize hP : restI T.l j = P at *
      refine AW.skip ?_
      refine hK9 _ _ _ ?_; clear hK9
      refine AW.seq fun K10 hK10 => ?_
      refine AW.block ?_
      refine AW.seq fun K11 hK11 => ?_
      -- region 7
      refine AW.regionK 0 (fun _ => none) [0, 1, 6, 7, 9, 10, 11, 12, 28, 29] [6, 7, 200] ?_
      simp only [go_sem, reduceIte, reduceCtorEq, Nat.reduceAdd, Nat.reduceMul, Nat.reduceEqDiff, Nat.reduceLT, Nat.reduceLeDiff, Nat.reduceSub, Nat.reducePow, Nat.reduceBEq, Int.reduceToNat, List.reduceReplicate, ints_len]
      repeat with_reducible refine cj ?_ ?_
      all_goals try first | omega
      refine hK11 _ _ _ ?_; clear hK11
      refine AW.seq fun K12 hK12 => ?_
      -- region 8
      refine AW.regionK 0 (fun ii => if ii = 2 then some (.reads false (.bool (decide ((j : Int) ∈ T.l)))) else none) [0, 1, 6, 7, 9, 10, 11, 12, 28, 29, 35] [6, 7, 200] ?_
      simp only [go_sem, reduceIte, reduceCtorEq, Nat.reduceAdd, Nat.reduceMul, Nat.reduceEqDiff, Nat.reduceLT, Nat.reduceLeDiff, Nat.reduceSub, Nat.reducePow, Nat.reduceBEq, Int.reduceToNat, List.reduceReplicate, ints_len]
      repeat with_reducible refine cj ?_ ?_
      all_goals try first | (exact hco) | omega | exact ent (by kernel_rfl)
      refine hK12 _ _ _ ?_; clear hK12
      -- cond 3
      refine AW.cond rfl (by simp only [go_sem, reduceIte, reduceCtorEq, Nat.reduceAdd, Nat.reduceMul, Nat.reduceEqDiff, Nat.reduceLT, Nat.reduceLeDiff, Nat.reduceSub, Nat.reducePow, Nat.reduceBEq, Int.reduceToNat, List.reduceReplicate]) ?_ ?_
      · intro hb
        try simp only [hB, decide_eq_true_eq, decide_eq_false_iff_not] at hb
        rw [if_neg (by simpa using hb)] at hsu
        -- region 9
        refine AW.regionK 0 (fun _ => none) [0, 1, 6, 7, 9, 10, 11, 28, 29] [6, 7, 200] ?_
        simp only [go_sem, reduceIte, reduceCtorEq, Nat.reduceAdd, Nat.reduceMul, Nat.reduceEqDiff, Nat.reduceLT, Nat.reduceLeDiff, Nat.reduceSub, Nat.reducePow, Nat.reduceBEq, Int.reduceToNat, List.reduceReplicate, ints_len, htk, hsn]
        repeat with_reducible refine cj ?_ ?_
        all_goals try first | omega | (simp [scP, scalar]; done) | exact scP_words _ | exact scP_ints _ | exact scP_bools _
        refine hK10 _ _ _ ?_; clear hK10
        -- region 10
        refine AW.regionK 0 (fun _ => none) [0, 1, 6, 7, 9, 10, 11, 28, 29] [6, 7, 200] ?_
        simp only [go_sem, reduceIte, reduceCtorEq, Nat.reduceAdd, Nat.reduceMul, Nat.reduceEqDiff, Nat.reduceLT, Nat.reduceLeDiff, Nat.reduceSub, Nat.reducePow, Nat.reduceBEq, Int.reduceToNat, List.reduceReplicate, ints_len]
        repeat with_reducible refine cj ?_ ?_
        all_goals try first | omega
        rw [← hQl1]
        change Exists _
        refine ⟨_, ?hm, j + 1, ?_, ?_, ?_, ?_, ?_, ?_, rfl, ?henv, ?hstore, ?hst⟩
        case henv =>
          repeat' (first | rfl | refine env_cons ?_ ?_ | refine st_cons ?_ ?_ ?_ ?_ | refine int_eq ?_ | refine bool_eq ?_ | refine rsl_eq ?_ | refine osl_eq ?_ | refine sl_eq ?_ ?_ ?_ | refine ptr_eq ?_ ?_ ?_ | refine agg_eq ?_ | refine es_cons ?_ ?_ | refine row_cons ?_ ?_)
          all_goals (rw [hsu]; try simp)
        case hstore =>
          repeat' (first | rfl | refine env_cons ?_ ?_ | refine st_cons ?_ ?_ ?_ ?_ | refine int_eq ?_ | refine bool_eq ?_ | refine rsl_eq ?_ | refine osl_eq ?_ | refine sl_eq ?_ ?_ ?_ | refine ptr_eq ?_ ?_ ?_ | refine agg_eq ?_ | refine es_cons ?_ ?_ | refine row_cons ?_ ?_)
          all_goals (rw [hsu])
        case hst =>
          first | trivial | omega | (simp; done) | (simp; omega)
        case hm => omega
      · intro hb
        try simp only [hB, decide_eq_true_eq, decide_eq_false_iff_not] at hb
        rw [if_pos (by simpa using hb)] at hsu
        refine AW.skip ?_
        refine hK10 _ _ _ ?_; clear hK10
        -- region 10
        refine AW.regionK 0 (fun _ => none) [0, 1, 6, 7, 9, 10, 11, 28, 29] [6, 7, 200] ?_
        simp only [go_sem, reduceIte, reduceCtorEq, Nat.reduceAdd, Nat.reduceMul, Nat.reduceEqDiff, Nat.reduceLT, Nat.reduceLeDiff, Nat.reduceSub, Nat.reducePow, Nat.reduceBEq, Int.reduceToNat, List.reduceReplicate, ints_len]
        repeat with_reducible refine cj ?_ ?_
        all_goals try first | omega
        rw [← hQl1]
        change Exists _
        refine ⟨_, ?hm, j + 1, ?_, ?_, ?_, ?_, ?_, ?_, rfl, ?henv, ?hstore, ?hst⟩
        case henv =>
          repeat' (first | rfl | refine env_cons ?_ ?_ | refine st_cons ?_ ?_ ?_ ?_ | refine int_eq ?_ | refine bool_eq ?_ | refine rsl_eq ?_ | refine osl_eq ?_ | refine sl_eq ?_ ?_ ?_ | refine ptr_eq ?_ ?_ ?_ | refine agg_eq ?_ | refine es_cons ?_ ?_ | refine row_cons ?_ ?_)
          all_goals (rw [hsu]; try simp)
        case hstore =>
          repeat' (first | rfl | refine env_cons ?_ ?_ | refine st_cons ?_ ?_ ?_ ?_ | refine int_eq ?_ | refine bool_eq ?_ | refine rsl_eq ?_ | refine osl_eq ?_ | refine sl_eq ?_ ?_ ?_ | refine ptr_eq ?_ ?_ ?_ | refine agg_eq ?_ | refine es_cons ?_ ?_ | refine row_cons ?_ ?_)
          all_goals (rw [hsu])
        case hst =>
          first | trivial | omega | (simp; done) | (simp; omega)
        case hm => omega
    · intro hb
      try simp only [hB, decide_eq_true_eq, decide_eq_false_iff_not] at hb
      have hj : n = j := by omega
      subst hj
      have htk := ints_all (restI T.l n)
      have hof := of_b (n := n) (restI T.l n) hn (by have := restI_le T.l n; omega) (fun i hi => by obtain ⟨k, rfl, hk, _⟩ := (restI_mem T.l n i).1 hi; omega)
      refine AW.exit ?_
      rw [← hQl1]
      refine hK6 _ _ _ ?_; clear hK6
      refine AW.seq fun K13 hK13 => ?_
      refine AW.seq fun K14 hK14 => ?_
      -- region 11
      refine AW.regionK 0 (fun ii => if ii = 2 then some (.upd [200] (fun _ => []) (fun _ => .tup [.agg [.int .i64 n, .rsl 1 (words (setW (rowL n (restI T.l n)) n))], .int .i64 0])) else none) [1, 6, 7, 8, 10] [6, 7] ?_
      simp only [go_sem, reduceIte, reduceCtorEq, Nat.reduceAdd, Nat.reduceMul, Nat.reduceEqDiff, Nat.reduceLT, Nat.reduceLeDiff, Nat.reduceSub, Nat.reducePow, Nat.reduceBEq, Int.reduceToNat, List.reduceReplicate, ints_len, htk]
      repeat with_reducible refine cj ?_ ?_
      all_goals try first | (exact hof.upd (by simp only [List.map_cons, List.map_nil, go_sem, reduceIte, Nat.reduceEqDiff, htk, vwc_ints])) | omega | exact ent (by kernel_rfl)
      refine hK14 _ _ _ ?_; clear hK14
      refine AW.seq fun K15 hK15 => ?_
      -- region 12
      refine AW.regionK 0 (fun _ => none) [1, 6, 7, 8, 10, 48] [6, 7] ?_
      simp only [go_sem, reduceIte, reduceCtorEq, Nat.reduceAdd, Nat.reduceMul, Nat.reduceEqDiff, Nat.reduceLT, Nat.reduceLeDiff, Nat.reduceSub, Nat.reducePow, Nat.reduceBEq, Int.reduceToNat, List.reduceReplicate, ints_len]
      repeat with_reducible refine cj ?_ ?_
      all_goals try first | omega
      refine hK15 _ _ _ ?_; clear hK15
      -- cond 4
      refine AW.cond rfl (by simp only [go_sem, reduceIte, reduceCtorEq, Nat.reduceAdd, Nat.reduceMul, Nat.reduceEqDiff, Nat.reduceLT, Nat.reduceLeDiff, Nat.reduceSub, Nat.reducePow, Nat.reduceBEq, Int.reduceToNat, List.reduceReplicate]) ?_ ?_
      · intro hb
        try simp only [hB, decide_eq_true_eq, decide_eq_false_iff_not] at hb
        exfalso; simp at hb
      · intro hb
        try simp only [hB, decide_eq_true_eq, decide_eq_false_iff_not] at hb
        refine AW.skip ?_
        refine hK13 _ _ _ ?_; clear hK13
        refine AW.seq fun K16 hK16 => ?_
        refine AW.seq fun K17 hK17 => ?_
        -- region 14
        refine AW.regionK 0 (fun ii => if ii = 2 then some (.reads true (.tup [.agg [.int .i64 m, .rsl 1 (words (setW (rowL m T.q) m))], .int .i64 0])) else none) [6, 7, 8] [6, 7] ?_
        simp only [go_sem, reduceIte, reduceCtorEq, Nat.reduceAdd, Nat.reduceMul, Nat.reduceEqDiff, Nat.reduceLT, Nat.reduceLeDiff, Nat.reduceSub, Nat.reducePow, Nat.reduceBEq, Int.reduceToNat, List.reduceReplicate, ints_len]
        repeat with_reducible refine cj ?_ ?_
        all_goals try first | (exact hoq) | omega | exact ent (by kernel_rfl)
        refine hK17 _ _ _ ?_; clear hK17
        refine AW.seq fun K18 hK18 => ?_
        -- region 15
        refine AW.regionK 0 (fun _ => none) [6, 7, 8, 59] [6, 7] ?_
        simp only [go_sem, reduceIte, reduceCtorEq, Nat.reduceAdd, Nat.reduceMul, Nat.reduceEqDiff, Nat.reduceLT, Nat.reduceLeDiff, Nat.reduceSub, Nat.reducePow, Nat.reduceBEq, Int.reduceToNat, List.reduceReplicate, ints_len]
        repeat with_reducible refine cj ?_ ?_
        all_goals try first | omega
        refine hK18 _ _ _ ?_; clear hK18
        -- cond 5
        refine AW.cond rfl (by simp only [go_sem, reduceIte, reduceCtorEq, Nat.reduceAdd, Nat.reduceMul, Nat.reduceEqDiff, Nat.reduceLT, Nat.reduceLeDiff, Nat.reduceSub, Nat.reducePow, Nat.reduceBEq, Int.reduceToNat, List.reduceReplicate]) ?_ ?_
        · intro hb
          try simp only [hB, decide_eq_true_eq, decide_eq_false_iff_not] at hb
          exfalso; simp at hb
        · intro hb
          try simp only [hB, decide_eq_true_eq, decide_eq_false_iff_not] at hb
          refine AW.skip ?_
          refine hK16 _ _ _ ?_; clear hK16
          refine AW.seq fun K19 hK19 => ?_
          -- region 17
          refine AW.regionD mixed 0 (fun _ => none) [6, 7, 8] [6, 7] ?_
          simp only [go_sem, reduceIte, reduceCtorEq, Nat.reduceAdd, Nat.reduceMul, Nat.reduceEqDiff, Nat.reduceLT, Nat.reduceLeDiff, Nat.reduceSub, Nat.reducePow, Nat.reduceBEq, Int.reduceToNat, List.reduceReplicate, ints_len]
          repeat with_reducible refine cj ?_ ?_
          all_goals try first | omega | exact chk (by kernel_rfl)
          refine hK19 _ _ _ ?_; clear hK19
          refine AW.ret ?_
          rw [← hQr]
          simp only [go_sem, reduceIte, reduceCtorEq, Nat.reduceAdd, Nat.reduceMul, Nat.reduceEqDiff, Nat.reduceLT, Nat.reduceLeDiff, Nat.reduceSub, Nat.reducePow, Nat.reduceBEq, Int.reduceToNat, List.reduceReplicate, ints_len]
          exact Wk.refl _
end Go.Proofs.M

/- A set is valid exactly if no bit behind its numbers is set. -/
namespace Go.AM
theorem validS_bits {N : Int} {W : List Int} (hW : okW W) (h0 : 0 ≤ N) (h1 : N ≤ 512) (hl : (W.length : Int) = wordsN N) (hb : ∀ i : Nat, N ≤ i → i < 64 * W.length → hasW W i = false) : validS N W = true := by
  have e : W = setW (setR N.toNat fun i => hasW W (i : Int)) (setR N.toNat fun i => hasW W (i : Int)).length := by
    have hn : ((setR N.toNat fun i => hasW W (i : Int)).length : Int) = N := by rw [setR_len]; omega
    have hlen : (setW (setR N.toNat fun i => hasW W (i : Int)) (setR N.toNat fun i => hasW W (i : Int)).length).length = W.length := by rw [setW_len', hn]; omega
    refine words_ext hW (setW_ok _) hlen.symm fun i hi => ?_
    rw [hasW_setW _ (by rw [hlen]; omega)]
    by_cases h : (i : Int) < N
    · rw [setR_get (by omega)]
    · rw [hb i (by omega) hi, Go.AM.getD_out (by rw [setR_len]; omega)]
  have hv := validS_setW (b := setR N.toNat fun i => hasW W (i : Int)) (by rw [setR_len]; omega)
  rw [← e] at hv
  rw [show N = ((setR N.toNat fun i => hasW W (i : Int)).length : Int) by rw [setR_len]; omega]
  exact hv
theorem validS_bit {N : Int} {W : List Int} (hW : okW W) (hv : validS N W = true) {i : Nat} (hi : N ≤ i) (hlt : i < 64 * W.length) : hasW W i = false := by
  obtain ⟨b, h1, h2⟩ := setW_of hW hv
  rw [h2, hasW_setW b (by rw [← h2]; omega)]
  rw [Go.AM.getD_out (by omega)]
end Go.AM

namespace Go.Proofs.M
open Go.AM Go
set_option maxRecDepth 100000
set_option maxHeartbeats 2000000
theorem wrap64 {i : Int} (h0 : 0 ≤ i) : IntKind.u64.wrap (i.tmod 64) = i.tmod 64 := by
  have : 0 ≤ i.tmod 64 ∧ i.tmod 64 < 64 := by rw [Int.tmod_eq_emod_of_nonneg h0]; omega
  simp [IntKind.wrap, IntKind.signed, IntKind.bits]; omega
theorem rhas_in (b : List Bool) (hb : b.length ≤ 512) (i : Int) (h0 : 0 ≤ i) (h1 : i < b.length) : Reads Try.prog 23 false [.agg (rowB b), .int .i64 i] (.bool (b.getD i.toNat false)) := by
  have hd := div64_rng (i := i) (n := b.length) h0 (by omega)
  have hwl := setW_len' b
  have hgw := words_getD (l := setW b b.length) (i := (i.tdiv 64).toNat) (by omega)
  have hwr := wrap64 h0
  have hm := setW_mem h0 h1
  have hbl := setB_len hb
  unfold rowB hasW at *
  generalize setW b b.length = W at *
  refine Reads.body (rs := [.tmp 4]) Try.func23 rfl Try.ntmps23 rfl (by simp) ?_
  generalize hQr : retQ _ _ _ = Qr
  refine AW.seq fun K1 hK1 => ?_
  -- region 0
  refine AW.regionK 0 (fun _ => none) [1, 2] [2] ?_
  simp only [go_sem, reduceIte, reduceCtorEq, Nat.reduceAdd, Nat.reduceMul, Nat.reduceEqDiff, Nat.reduceLT, Nat.reduceLeDiff, Nat.reduceSub, Nat.reducePow, Nat.reduceBEq, Int.reduceToNat, List.reduceReplicate]
  repeat with_reducible refine cj ?_ ?_
  all_goals try first | omega
  refine hK1 _ _ _ ?_; clear hK1
  refine AW.seq fun K2 hK2 => ?_
  -- region 1
  refine AW.regionK 0 (fun _ => none) [4] [] ?_
  simp only [go_sem, reduceIte, reduceCtorEq, Nat.reduceAdd, Nat.reduceMul, Nat.reduceEqDiff, Nat.reduceLT, Nat.reduceLeDiff, Nat.reduceSub, Nat.reducePow, Nat.reduceBEq, Int.reduceToNat, List.reduceReplicate, hgw]
  repeat with_reducible refine cj ?_ ?_
  all_goals try first | omega | (intros; (repeat' apply And.intro) <;> first | assumption | omega | decide) | (intro hgd; exact absurd hgd (by decide)) | rfl | (simp only [go_sem, reduceIte, reduceCtorEq, Nat.reduceAdd, Nat.reduceMul, Nat.reduceEqDiff, Nat.reduceLT, Nat.reduceLeDiff, Nat.reduceSub, Nat.reducePow, Nat.reduceBEq, Int.reduceToNat, List.reduceReplicate, hgw]; done) | (intro _hgd; simp_all [go_sem]; done)
  refine hK2 _ _ _ ?_; clear hK2
  refine AW.ret ?_
  rw [← hQr]
  simp only [go_sem, reduceIte, reduceCtorEq, Nat.reduceAdd, Nat.reduceMul, Nat.reduceEqDiff, Nat.reduceLT, Nat.reduceLeDiff, Nat.reduceSub, Nat.reducePow, Nat.reduceBEq, Int.reduceToNat, List.reduceReplicate]
  exact Wk.of_eq (by rw [hm, decide_eq_true h0, decide_eq_true h1]; rfl)
theorem isset_r (N n : Int) (W : List Int) (hW : okW W) (hl : W.length ≤ 1000000) : Reads Try.prog 21 false [.agg [.int .i64 N, .rsl 1 (words W)], .int .i64 n] (.bool (decide (N = n) && validS n W)) := by
  have hwe := wordsN_ref n
  have hnv : ¬ (0 ≤ n ∧ n ≤ 512 ∧ (W.length : Int) = wordsN n) → validS n W = false := fun h => by
    cases e : validS n W
    · rfl
    · exact absurd (validS_sz e) h
  refine Reads.body (rs := [.tmp 4]) Try.func21 rfl Try.ntmps21 rfl (by simp) ?_
  generalize hQr : retQ _ _ _ = Qr
  refine AW.seq fun K1 hK1 => ?_
  -- region 0
  refine AW.regionK 0 (fun _ => none) [1, 2] [2] ?_
  simp only [go_sem, reduceIte, reduceCtorEq, Nat.reduceAdd, Nat.reduceMul, Nat.reduceEqDiff, Nat.reduceLT, Nat.reduceLeDiff, Nat.reduceSub, Nat.reducePow, Nat.reduceBEq, Int.reduceToNat, List.reduceReplicate, hwe]
  repeat with_reducible refine cj ?_ ?_
  all_goals try first | omega
  refine hK1 _ _ _ ?_; clear hK1
  refine AW.seq fun K2 hK2 => ?_
  refine AW.seq fun K3 hK3 => ?_
  -- region 1
  refine AW.regionK 0 (fun _ => none) [1, 2, 26] [2] ?_
  simp only [go_sem, reduceIte, reduceCtorEq, Nat.reduceAdd, Nat.reduceMul, Nat.reduceEqDiff, Nat.reduceLT, Nat.reduceLeDiff, Nat.reduceSub, Nat.reducePow, Nat.reduceBEq, Int.reduceToNat, List.reduceReplicate, hwe]
  repeat with_reducible refine cj ?_ ?_
  all_goals try first | ((intro hh; have hc := hh; simp only [Bool.or_eq_false_iff, decide_eq_false_iff_not] at hc; have hwn2 := wordsN_rng (n := n) (by omega); (repeat' apply And.intro) <;> first | exact hh | omega | decide)) | (intros; (repeat' apply And.intro) <;> first | assumption | ((intro hh; have hc := hh; simp only [Bool.or_eq_false_iff, decide_eq_false_iff_not] at hc; have hwn2 := wordsN_rng (n := n) (by omega); (repeat' apply And.intro) <;> first | exact hh | omega | decide))) | omega | (intro hgd; exact absurd hgd (by decide)) | rfl | (simp only [go_sem, reduceIte, reduceCtorEq, Nat.reduceAdd, Nat.reduceMul, Nat.reduceEqDiff, Nat.reduceLT, Nat.reduceLeDiff, Nat.reduceSub, Nat.reducePow, Nat.reduceBEq, Int.reduceToNat, List.reduceReplicate, hwe]; done) | (intro _hgd; simp_all [go_sem]; done)
  refine hK3 _ _ _ ?_; clear hK3
  -- cond 1
  refine AW.cond rfl (by simp only [go_sem, reduceIte, reduceCtorEq, Nat.reduceAdd, Nat.reduceMul, Nat.reduceEqDiff, Nat.reduceLT, Nat.reduceLeDiff, Nat.reduceSub, Nat.reducePow, Nat.reduceBEq, Int.reduceToNat, List.reduceReplicate]) ?_ ?_
  · intro hb
    try simp only [hB, decide_eq_true_eq, decide_eq_false_iff_not] at hb
    refine AW.seq fun K4 hK4 => ?_
    -- region 2
    refine AW.regionK 0 (fun _ => none) [4] [] ?_
    simp only [go_sem, reduceIte, reduceCtorEq, Nat.reduceAdd, Nat.reduceMul, Nat.reduceEqDiff, Nat.reduceLT, Nat.reduceLeDiff, Nat.reduceSub, Nat.reducePow, Nat.reduceBEq, Int.reduceToNat, List.reduceReplicate, hwe]
    repeat with_reducible refine cj ?_ ?_
    all_goals try first | omega
    refine hK4 _ _ _ ?_; clear hK4
    refine AW.ret ?_
    rw [← hQr]
    simp only [go_sem, reduceIte, reduceCtorEq, Nat.reduceAdd, Nat.reduceMul, Nat.reduceEqDiff, Nat.reduceLT, Nat.reduceLeDiff, Nat.reduceSub, Nat.reducePow, Nat.reduceBEq, Int.reduceToNat, List.reduceReplicate, hwe]
    exact Wk.of_eq (by by_cases hNn : N = n; rw [hnv (by rintro ⟨a, b, c⟩; rcases hb with ((hb | hb) | hb) | hb; exact hb hNn; omega; omega; exact hb c)]; simp; simp [hNn])
  · intro hb
    try simp only [hB, decide_eq_true_eq, decide_eq_false_iff_not] at hb
    have hsz : N = n ∧ 0 ≤ n ∧ n ≤ 512 ∧ (W.length : Int) = wordsN n := by refine ⟨?_, ?_, ?_, ?_⟩ <;> (obtain ⟨⟨⟨a, b⟩, c⟩, d⟩ := hb; omega)
    have hwn := wordsN_rng hsz.2.1
    have hNn := hsz.1
    refine AW.skip ?_
    refine hK2 _ _ _ ?_; clear hK2
    refine AW.seq fun K5 hK5 => ?_
    refine AW.seq fun K6 hK6 => ?_
    -- region 3
    refine AW.regionK 0 (fun _ => none) [2, 5] [2] ?_
    simp only [go_sem, reduceIte, reduceCtorEq, Nat.reduceAdd, Nat.reduceMul, Nat.reduceEqDiff, Nat.reduceLT, Nat.reduceLeDiff, Nat.reduceSub, Nat.reducePow, Nat.reduceBEq, Int.reduceToNat, List.reduceReplicate, hwe]
    repeat with_reducible refine cj ?_ ?_
    all_goals try first | omega
    refine hK6 _ _ _ ?_; clear hK6
    refine AW.block ?_
    -- loop 1
    refine AW.loopE (fun mm ee ss kk => ∃ (i : Nat) (g1 v1 : Nat), 64 * W.length - i = mm ∧ ee = [(2, .ptr ⟨2, g1, none⟩ 0 0), (5, .int .i64 (i : Nat))] ∧ ss = [(2, some ⟨g1, v1, 2, [[.int .i64 N, .rsl 1 (words W)]]⟩)] ∧ (n ≤ i ∧ i ≤ 100000000 ∧ ∀ q : Nat, n ≤ q → q < i → q < 64 * W.length → hasW W q = false)) ?_ ?_
    · refine ⟨_, n.toNat, ?_, ?_, rfl, ?henv, ?hstore, ?hst⟩
      case henv =>
        repeat' (first | rfl | refine env_cons ?_ ?_ | refine st_cons ?_ ?_ ?_ ?_ | refine int_eq ?_ | refine bool_eq ?_ | refine rsl_eq ?_ | refine osl_eq ?_ | refine sl_eq ?_ ?_ ?_ | refine ptr_eq ?_ ?_ ?_ | refine agg_eq ?_ | refine es_cons ?_ ?_ | refine row_cons ?_ ?_)
        all_goals (first | (simp; done) | omega | (simp; omega))
      case hstore =>
        repeat' (first | rfl | refine env_cons ?_ ?_ | refine st_cons ?_ ?_ ?_ ?_ | refine int_eq ?_ | refine bool_eq ?_ | refine rsl_eq ?_ | refine osl_eq ?_ | refine sl_eq ?_ ?_ ?_ | refine ptr_eq ?_ ?_ ?_ | refine agg_eq ?_ | refine es_cons ?_ ?_ | refine row_cons ?_ ?_)
        all_goals (first | (simp; done) | omega | (simp; omega))
      case hst =>
        exact ⟨by omega, by omega, fun q h1 h2 => by omega⟩
    rintro mm ee ss kk ⟨i, g1, v1, rfl, rfl, rfl, hI⟩
    generalize hQl1 : thenQ _ _ = Ql1
    obtain ⟨hNi, hi6, hall⟩ := hI
    refine AW.seq fun K7 hK7 => ?_
    refine AW.seq fun K8 hK8 => ?_
    -- region 4
    refine AW.regionK 0 (fun _ => none) [2, 5, 33] [2] ?_
    simp only [go_sem, reduceIte, reduceCtorEq, Nat.reduceAdd, Nat.reduceMul, Nat.reduceEqDiff, Nat.reduceLT, Nat.reduceLeDiff, Nat.reduceSub, Nat.reducePow, Nat.reduceBEq, Int.reduceToNat, List.reduceReplicate, hwe]
    repeat with_reducible refine cj ?_ ?_
    all_goals try first | omega
    refine hK8 _ _ _ ?_; clear hK8
    -- cond 2
    refine AW.cond rfl (by simp only [go_sem, reduceIte, reduceCtorEq, Nat.reduceAdd, Nat.reduceMul, Nat.reduceEqDiff, Nat.reduceLT, Nat.reduceLeDiff, Nat.reduceSub, Nat.reducePow, Nat.reduceBEq, Int.reduceToNat, List.reduceReplicate]) ?_ ?_
    · intro hb
      try simp only [hB, decide_eq_true_eq, decide_eq_false_iff_not] at hb
      have hgw := words_getD (l := W) (i := (((i : Nat) : Int).tdiv 64).toNat) (by rw [Int.tdiv_eq_ediv_of_nonneg (by omega)]; omega)
      have hd := div64_rng (i := (i : Int)) (n := (i : Int) + 1) (by omega) (by omega)
      have hdl : (i : Int).tdiv 64 < W.length := by rw [Int.tdiv_eq_ediv_of_nonneg (by omega)]; omega
      have hdh : hasW W (i : Nat) = decide ((bShr .u64 (W.getD ((i : Int).tdiv 64).toNat 0) ((i : Int).tmod 64)).tmod 2 = 1) := rfl
      refine AW.skip ?_
      refine hK7 _ _ _ ?_; clear hK7
      refine AW.seq fun K9 hK9 => ?_
      refine AW.block ?_
      refine AW.seq fun K10 hK10 => ?_
      -- region 6
      refine AW.regionK 0 (fun _ => none) [2, 5, 46] [2] ?_
      simp only [go_sem, reduceIte, reduceCtorEq, Nat.reduceAdd, Nat.reduceMul, Nat.reduceEqDiff, Nat.reduceLT, Nat.reduceLeDiff, Nat.reduceSub, Nat.reducePow, Nat.reduceBEq, Int.reduceToNat, List.reduceReplicate, hwe, hgw, ← hdh]
      repeat with_reducible refine cj ?_ ?_
      all_goals try first | omega
      refine hK10 _ _ _ ?_; clear hK10
      -- cond 3
      refine AW.cond rfl (by simp only [go_sem, reduceIte, reduceCtorEq, Nat.reduceAdd, Nat.reduceMul, Nat.reduceEqDiff, Nat.reduceLT, Nat.reduceLeDiff, Nat.reduceSub, Nat.reducePow, Nat.reduceBEq, Int.reduceToNat, List.reduceReplicate]) ?_ ?_
      · intro hb
        try simp only [hB, decide_eq_true_eq, decide_eq_false_iff_not] at hb
        refine AW.seq fun K11 hK11 => ?_
        -- region 7
        refine AW.regionK 0 (fun _ => none) [4] [] ?_
        simp only [go_sem, reduceIte, reduceCtorEq, Nat.reduceAdd, Nat.reduceMul, Nat.reduceEqDiff, Nat.reduceLT, Nat.reduceLeDiff, Nat.reduceSub, Nat.reducePow, Nat.reduceBEq, Int.reduceToNat, List.reduceReplicate, hwe]
        repeat with_reducible refine cj ?_ ?_
        all_goals try first | omega
        refine hK11 _ _ _ ?_; clear hK11
        refine AW.ret ?_
        rw [← hQl1]
        rw [← hQr]
        simp only [go_sem, reduceIte, reduceCtorEq, Nat.reduceAdd, Nat.reduceMul, Nat.reduceEqDiff, Nat.reduceLT, Nat.reduceLeDiff, Nat.reduceSub, Nat.reducePow, Nat.reduceBEq, Int.reduceToNat, List.reduceReplicate, hwe]
        have hvf : validS n W = false := by
          cases e : validS n W
          · rfl
          · rw [validS_bit hW e hNi (by omega)] at hb; cases hb
        exact Wk.of_eq (by rw [hvf]; simp)
      · intro hb
        try simp only [hB, decide_eq_true_eq, decide_eq_false_iff_not] at hb
        have hb0 : hasW W (i : Nat) = false := by simpa using hb
        refine AW.skip ?_
        refine hK9 _ _ _ ?_; clear hK9
        -- region 5
        refine AW.regionK 0 (fun _ => none) [2, 5] [2] ?_
        simp only [go_sem, reduceIte, reduceCtorEq, Nat.reduceAdd, Nat.reduceMul, Nat.reduceEqDiff, Nat.reduceLT, Nat.reduceLeDiff, Nat.reduceSub, Nat.reducePow, Nat.reduceBEq, Int.reduceToNat, List.reduceReplicate, hwe]
        repeat with_reducible refine cj ?_ ?_
        all_goals try first | omega
        rw [← hQl1]
        change Exists _
        refine ⟨_, ?hm, i + 1, ?_, ?_, rfl, ?henv, ?hstore, ?hst⟩
        case henv =>
          repeat' (first | rfl | refine env_cons ?_ ?_ | refine st_cons ?_ ?_ ?_ ?_ | refine int_eq ?_ | refine bool_eq ?_ | refine rsl_eq ?_ | refine osl_eq ?_ | refine sl_eq ?_ ?_ ?_ | refine ptr_eq ?_ ?_ ?_ | refine agg_eq ?_ | refine es_cons ?_ ?_ | refine row_cons ?_ ?_)
          all_goals (first | (simp; done) | omega | (simp; omega))
        case hstore =>
          repeat' (first | rfl | refine env_cons ?_ ?_ | refine st_cons ?_ ?_ ?_ ?_ | refine int_eq ?_ | refine bool_eq ?_ | refine rsl_eq ?_ | refine osl_eq ?_ | refine sl_eq ?_ ?_ ?_ | refine ptr_eq ?_ ?_ ?_ | refine agg_eq ?_ | refine es_cons ?_ ?_ | refine row_cons ?_ ?_)
          all_goals (first | (simp; done) | omega | (simp; omega))
        case hst =>
          refine ⟨by omega, by omega, fun q h1 h2 h3 => ?_⟩
          by_cases e : q = i
          · rw [e]; exact hb0
          · exact hall q h1 (by omega) h3
        case hm => omega
    · intro hb
      try simp only [hB, decide_eq_true_eq, decide_eq_false_iff_not] at hb
      refine AW.keep [] [] ?_
      try simp only [go_sem, reduceIte, reduceCtorEq, Nat.reduceAdd, Nat.reduceMul, Nat.reduceEqDiff, Nat.reduceLT, Nat.reduceLeDiff, Nat.reduceSub, Nat.reducePow, Nat.reduceBEq, Int.reduceToNat, List.reduceReplicate]
      refine AW.exit ?_
      rw [← hQl1]
      refine hK5 _ _ _ ?_; clear hK5
      refine AW.seq fun K12 hK12 => ?_
      -- region 8
      refine AW.regionK 0 (fun _ => none) [4] [] ?_
      simp only [go_sem, reduceIte, reduceCtorEq, Nat.reduceAdd, Nat.reduceMul, Nat.reduceEqDiff, Nat.reduceLT, Nat.reduceLeDiff, Nat.reduceSub, Nat.reducePow, Nat.reduceBEq, Int.reduceToNat, List.reduceReplicate, hwe]
      repeat with_reducible refine cj ?_ ?_
      all_goals try first | omega
      refine hK12 _ _ _ ?_; clear hK12
      refine AW.ret ?_
      rw [← hQr]
      simp only [go_sem, reduceIte, reduceCtorEq, Nat.reduceAdd, Nat.reduceMul, Nat.reduceEqDiff, Nat.reduceLT, Nat.reduceLeDiff, Nat.reduceSub, Nat.reducePow, Nat.reduceBEq, Int.reduceToNat, List.reduceReplicate, hwe]
      exact Wk.of_eq (by rw [validS_bits hW hsz.2.1 hsz.2.2.1 hsz.2.2.2 fun q h1 h2 => hall q h1 (by omega) h2]; simp [hNn])
theorem fil_succ (p : Nat → Bool) (j : Nat) : ((List.range (j + 1)).filter p).length = ((List.range j).filter p).length + if p j = true then 1 else 0 := by
  rw [List.range_succ, List.filter_append, List.length_append]
  by_cases h : p j = true <;> simp [h]
theorem fil_le (p : Nat → Bool) (j : Nat) : ((List.range j).filter p).length ≤ j := by
  have := List.length_filter_le p (List.range j)
  simpa using this
theorem rcount_r (b : List Bool) (hb : b.length ≤ 512) : Reads Try.prog 27 false [.agg (rowB b)] (.int .i64 ((memB b).length : Nat)) := by
  have hhr := rhas_in b hb
  have hbl := setB_len hb
  have hmb : (memB b).length = ((List.range b.length).filter fun i => b.getD i false).length := rfl
  unfold rowB at *
  refine Reads.body (rs := [.tmp 2]) Try.func27 rfl Try.ntmps27 rfl (by simp) ?_
  generalize hQr : retQ _ _ _ = Qr
  refine AW.seq fun K1 hK1 => ?_
  -- region 0
  refine AW.regionK 0 (fun _ => none) [1] [1] ?_
  simp only [go_sem, reduceIte, reduceCtorEq, Nat.reduceAdd, Nat.reduceMul, Nat.reduceEqDiff, Nat.reduceLT, Nat.reduceLeDiff, Nat.reduceSub, Nat.reducePow, Nat.reduceBEq, Int.reduceToNat, List.reduceReplicate]
  repeat with_reducible refine cj ?_ ?_
  all_goals try first | omega
  refine hK1 _ _ _ ?_; clear hK1
  refine AW.seq fun K2 hK2 => ?_
  -- region 1
  refine AW.regionK 0 (fun _ => none) [1, 3] [1] ?_
  simp only [go_sem, reduceIte, reduceCtorEq, Nat.reduceAdd, Nat.reduceMul, Nat.reduceEqDiff, Nat.reduceLT, Nat.reduceLeDiff, Nat.reduceSub, Nat.reducePow, Nat.reduceBEq, Int.reduceToNat, List.reduceReplicate]
  repeat with_reducible refine cj ?_ ?_
  all_goals try first | omega
  refine hK2 _ _ _ ?_; clear hK2
  refine AW.seq fun K3 hK3 => ?_
  refine AW.seq fun K4 hK4 => ?_
  -- region 2
  refine AW.regionK 0 (fun _ => none) [1, 3, 4] [1] ?_
  simp only [go_sem, reduceIte, reduceCtorEq, Nat.reduceAdd, Nat.reduceMul, Nat.reduceEqDiff, Nat.reduceLT, Nat.reduceLeDiff, Nat.reduceSub, Nat.reducePow, Nat.reduceBEq, Int.reduceToNat, List.reduceReplicate]
  repeat with_reducible refine cj ?_ ?_
  all_goals try first | omega
  refine hK4 _ _ _ ?_; clear hK4
  refine AW.block ?_
  -- loop 1
  refine AW.loopE (fun mm ee ss kk => ∃ (j g1 v1 : Nat), b.length - j = mm ∧ ee = [(1, .ptr ⟨1, g1, none⟩ 0 0), (3, .int .i64 (((List.range j).filter fun i => b.getD i false).length : Nat)), (4, .int .i64 (j : Nat))] ∧ ss = [(1, some ⟨g1, v1, 2, [[.int .i64 b.length, .rsl 1 (words (setW b b.length))]]⟩)] ∧ (j ≤ b.length)) ?_ ?_
  · refine ⟨_, 0, ?_, ?_, rfl, ?henv, ?hstore, ?hst⟩
    case henv =>
      repeat' (first | rfl | refine env_cons ?_ ?_ | refine st_cons ?_ ?_ ?_ ?_ | refine int_eq ?_ | refine bool_eq ?_ | refine rsl_eq ?_ | refine osl_eq ?_ | refine sl_eq ?_ ?_ ?_ | refine ptr_eq ?_ ?_ ?_ | refine agg_eq ?_ | refine es_cons ?_ ?_ | refine row_cons ?_ ?_)
      all_goals (first | (simp; done) | omega | (simp; omega))
    case hstore =>
      repeat' (first | rfl | refine env_cons ?_ ?_ | refine st_cons ?_ ?_ ?_ ?_ | refine int_eq ?_ | refine bool_eq ?_ | refine rsl_eq ?_ | refine osl_eq ?_ | refine sl_eq ?_ ?_ ?_ | refine ptr_eq ?_ ?_ ?_ | refine agg_eq ?_ | refine es_cons ?_ ?_ | refine row_cons ?_ ?_)
      all_goals (first | (simp; done) | omega | (simp; omega))
    case hst =>
      first | trivial | omega | (simp; done) | (simp; omega)
  rintro mm ee ss kk ⟨j, g1, v1, rfl, rfl, rfl, hI⟩
  generalize hQl1 : thenQ _ _ = Ql1
  refine AW.seq fun K5 hK5 => ?_
  refine AW.seq fun K6 hK6 => ?_
  -- region 3
  refine AW.regionK 0 (fun _ => none) [1, 3, 4, 8] [1] ?_
  simp only [go_sem, reduceIte, reduceCtorEq, Nat.reduceAdd, Nat.reduceMul, Nat.reduceEqDiff, Nat.reduceLT, Nat.reduceLeDiff, Nat.reduceSub, Nat.reducePow, Nat.reduceBEq, Int.reduceToNat, List.reduceReplicate]
  repeat with_reducible refine cj ?_ ?_
  all_goals try first | omega
  refine hK6 _ _ _ ?_; clear hK6
  -- cond 1
  refine AW.cond rfl (by simp only [go_sem, reduceIte, reduceCtorEq, Nat.reduceAdd, Nat.reduceMul, Nat.reduceEqDiff, Nat.reduceLT, Nat.reduceLeDiff, Nat.reduceSub, Nat.reducePow, Nat.reduceBEq, Int.reduceToNat, List.reduceReplicate]) ?_ ?_
  · intro hb
    try simp only [hB, decide_eq_true_eq, decide_eq_false_iff_not] at hb
    have hh := hhr (j : Int) (by omega) (by omega)
    rw [Int.toNat_natCast] at hh
    have hsu := fil_succ (fun i => b.getD i false) j
    have hfl := fil_le (fun i => b.getD i false) j
    refine AW.skip ?_
    refine hK5 _ _ _ ?_; clear hK5
    refine AW.seq fun K7 hK7 => ?_
    refine AW.block ?_
    refine AW.seq fun K8 hK8 => ?_
    -- region 5
    refine AW.regionK 0 (fun ii => if ii = 2 then some (.reads false (.bool (b.getD j false))) else none) [1, 3, 4, 13] [1] ?_
    simp only [go_sem, reduceIte, reduceCtorEq, Nat.reduceAdd, Nat.reduceMul, Nat.reduceEqDiff, Nat.reduceLT, Nat.reduceLeDiff, Nat.reduceSub, Nat.reducePow, Nat.reduceBEq, Int.reduceToNat, List.reduceReplicate]
    repeat with_reducible refine cj ?_ ?_
    all_goals try first | (exact hh) | omega | exact ent (by kernel_rfl)
    refine hK8 _ _ _ ?_; clear hK8
    -- cond 2
    refine AW.cond rfl (by simp only [go_sem, reduceIte, reduceCtorEq, Nat.reduceAdd, Nat.reduceMul, Nat.reduceEqDiff, Nat.reduceLT, Nat.reduceLeDiff, Nat.reduceSub, Nat.reducePow, Nat.reduceBEq, Int.reduceToNat, List.reduceReplicate]) ?_ ?_
    · intro hb
      try simp only [hB, decide_eq_true_eq, decide_eq_false_iff_not] at hb
      rw [if_pos hb] at hsu
      -- region 6
      refine AW.regionK 0 (fun _ => none) [1, 3, 4] [1] ?_
      simp only [go_sem, reduceIte, reduceCtorEq, Nat.reduceAdd, Nat.reduceMul, Nat.reduceEqDiff, Nat.reduceLT, Nat.reduceLeDiff, Nat.reduceSub, Nat.reducePow, Nat.reduceBEq, Int.reduceToNat, List.reduceReplicate]
      repeat with_reducible refine cj ?_ ?_
      all_goals try first | omega
      refine hK7 _ _ _ ?_; clear hK7
      -- region 4
      refine AW.regionK 0 (fun _ => none) [1, 3, 4] [1] ?_
      simp only [go_sem, reduceIte, reduceCtorEq, Nat.reduceAdd, Nat.reduceMul, Nat.reduceEqDiff, Nat.reduceLT, Nat.reduceLeDiff, Nat.reduceSub, Nat.reducePow, Nat.reduceBEq, Int.reduceToNat, List.reduceReplicate]
      repeat with_reducible refine cj ?_ ?_
      all_goals try first | omega
      rw [← hQl1]
      change Exists _
      refine ⟨_, ?hm, j + 1, ?_, ?_, rfl, ?henv, ?hstore, ?hst⟩
      case henv =>
        repeat' (first | rfl | refine env_cons ?_ ?_ | refine st_cons ?_ ?_ ?_ ?_ | refine int_eq ?_ | refine bool_eq ?_ | refine rsl_eq ?_ | refine osl_eq ?_ | refine sl_eq ?_ ?_ ?_ | refine ptr_eq ?_ ?_ ?_ | refine agg_eq ?_ | refine es_cons ?_ ?_ | refine row_cons ?_ ?_)
        all_goals (first | (rw [hsu]; done) | (rw [hsu]; simp; done) | (simp; done) | omega)
      case hstore =>
        repeat' (first | rfl | refine env_cons ?_ ?_ | refine st_cons ?_ ?_ ?_ ?_ | refine int_eq ?_ | refine bool_eq ?_ | refine rsl_eq ?_ | refine osl_eq ?_ | refine sl_eq ?_ ?_ ?_ | refine ptr_eq ?_ ?_ ?_ | refine agg_eq ?_ | refine es_cons ?_ ?_ | refine row_cons ?_ ?_)
        all_goals (first | (simp; done) | omega | (simp; omega))
      case hst =>
        first | trivial | omega | (simp; done) | (simp; omega)
      case hm => omega
    · intro hb
      try simp only [hB, decide_eq_true_eq, decide_eq_false_iff_not] at hb
      rw [if_neg (by rw [hb]; simp)] at hsu
      refine AW.skip ?_
      refine hK7 _ _ _ ?_; clear hK7
      -- region 4
      refine AW.regionK 0 (fun _ => none) [1, 3, 4] [1] ?_
      simp only [go_sem, reduceIte, reduceCtorEq, Nat.reduceAdd, Nat.reduceMul, Nat.reduceEqDiff, Nat.reduceLT, Nat.reduceLeDiff, Nat.reduceSub, Nat.reducePow, Nat.reduceBEq, Int.reduceToNat, List.reduceReplicate]
      repeat with_reducible refine cj ?_ ?_
      all_goals try first | omega
      rw [← hQl1]
      change Exists _
      refine ⟨_, ?hm, j + 1, ?_, ?_, rfl, ?henv, ?hstore, ?hst⟩
      case henv =>
        repeat' (first | rfl | refine env_cons ?_ ?_ | refine st_cons ?_ ?_ ?_ ?_ | refine int_eq ?_ | refine bool_eq ?_ | refine rsl_eq ?_ | refine osl_eq ?_ | refine sl_eq ?_ ?_ ?_ | refine ptr_eq ?_ ?_ ?_ | refine agg_eq ?_ | refine es_cons ?_ ?_ | refine row_cons ?_ ?_)
        all_goals (first | (rw [hsu]; done) | (rw [hsu]; simp; done) | (simp; done) | omega)
      case hstore =>
        repeat' (first | rfl | refine env_cons ?_ ?_ | refine st_cons ?_ ?_ ?_ ?_ | refine int_eq ?_ | refine bool_eq ?_ | refine rsl_eq ?_ | refine osl_eq ?_ | refine sl_eq ?_ ?_ ?_ | refine ptr_eq ?_ ?_ ?_ | refine agg_eq ?_ | refine es_cons ?_ ?_ | refine row_cons ?_ ?_)
        all_goals (first | (simp; done) | omega | (simp; omega))
      case hst =>
        first | trivial | omega | (simp; done) | (simp; omega)
      case hm => omega
  · intro hb
    try simp only [hB, decide_eq_true_eq, decide_eq_false_iff_not] at hb
    refine AW.keep [3] [] ?_
    try simp only [go_sem, reduceIte, reduceCtorEq, Nat.reduceAdd, Nat.reduceMul, Nat.reduceEqDiff, Nat.reduceLT, Nat.reduceLeDiff, Nat.reduceSub, Nat.reducePow, Nat.reduceBEq, Int.reduceToNat, List.reduceReplicate]
    refine AW.exit ?_
    rw [← hQl1]
    refine hK3 _ _ _ ?_; clear hK3
    refine AW.seq fun K9 hK9 => ?_
    -- region 7
    refine AW.regionK 0 (fun _ => none) [2] [] ?_
    simp only [go_sem, reduceIte, reduceCtorEq, Nat.reduceAdd, Nat.reduceMul, Nat.reduceEqDiff, Nat.reduceLT, Nat.reduceLeDiff, Nat.reduceSub, Nat.reducePow, Nat.reduceBEq, Int.reduceToNat, List.reduceReplicate]
    repeat with_reducible refine cj ?_ ?_
    all_goals try first | omega
    refine hK9 _ _ _ ?_; clear hK9
    refine AW.ret ?_
    rw [← hQr]
    simp only [go_sem, reduceIte, reduceCtorEq, Nat.reduceAdd, Nat.reduceMul, Nat.reduceEqDiff, Nat.reduceLT, Nat.reduceLeDiff, Nat.reduceSub, Nat.reducePow, Nat.reduceBEq, Int.reduceToNat, List.reduceReplicate]
    have hj : j = b.length := by omega
    subst hj
    exact Wk.of_eq (by rw [hmb])
theorem hall_good {n m : Nat} {E : List (Int × Int)} (h : Gd n m E) : Reads Try.prog 20 false [.int .i64 n, .int .i64 m, .rsl 2 (E.map pairV)] (if (rchM n m E).l.length = 0 then .tup [.agg [.int .i64 0, .nilsl], .int .i64 7] else .tup [.agg [.int .i64 n, .rsl 1 (words (setW (rowL n (rchM n m E).l) n))], .int .i64 0]) := by
  have hn := h.hn
  have hm := h.hm
  have hvr := mvalid_r n m E (by have := h.hl; omega)
  rw [h.valid] at hvr
  have hmx := maximum_u hn hm h.hE h.hl
  have hre := reached_r hn hm (nbOf_len n E) h.rng h.row h.max.1
  have hrl := h.rngL
  have hlen := h.rch.hlen
  have hLn := h.max.1.hL
  have hRm := h.max.1.hR
  rw [show reachP (nbOf n E) (maxLR (nbOf n E) n m n).1 (maxLR (nbOf n E) n m n).2 n m = rchM n m E from rfl] at hre
  generalize rchM n m E = T at *
  generalize maxLR (nbOf n E) n m n = x at *
  obtain ⟨L, R⟩ := x
  unfold graphS at hmx
  simp only at hmx hre hLn hRm ⊢
  generalize nbR (nbOf n E) = X at *
  have htL : (ints L).take n = ints L := List.take_of_length_le (by rw [ints_len]; omega)
  have htR : (ints R).take m = ints R := List.take_of_length_le (by rw [ints_len]; omega)
  have hol := of_b T.l hn (by omega) hrl
  refine Reads.body (rs := [.cell 6 30, .tmp 7]) Try.func20 rfl Try.ntmps20 rfl (by simp) ?_
  generalize hQr : retQ _ _ _ = Qr
  refine AW.seq fun K1 hK1 => ?_
  -- region 0
  refine AW.regionK 0 (fun _ => none) [0, 1, 2, 6] [6] ?_
  simp only [go_sem, reduceIte, reduceCtorEq, Nat.reduceAdd, Nat.reduceMul, Nat.reduceEqDiff, Nat.reduceLT, Nat.reduceLeDiff, Nat.reduceSub, Nat.reducePow, Nat.reduceBEq, Int.reduceToNat, List.reduceReplicate, ints_len]
  repeat with_reducible refine cj ?_ ?_
  all_goals try first | omega
  refine hK1 _ _ _ ?_; clear hK1
  refine AW.seq fun K2 hK2 => ?_
  refine AW.seq fun K3 hK3 => ?_
  -- region 1
  refine AW.regionK 0 (fun ii => if ii = 3 then some (.reads false (.bool true)) else none) [0, 1, 2, 6, 14] [6] ?_
  simp only [go_sem, reduceIte, reduceCtorEq, Nat.reduceAdd, Nat.reduceMul, Nat.reduceEqDiff, Nat.reduceLT, Nat.reduceLeDiff, Nat.reduceSub, Nat.reducePow, Nat.reduceBEq, Int.reduceToNat, List.reduceReplicate, ints_len]
  repeat with_reducible refine cj ?_ ?_
  all_goals try first | (exact hvr) | omega | exact ent (by kernel_rfl)
  refine hK3 _ _ _ ?_; clear hK3
  -- cond 1
  refine AW.cond rfl (by simp only [go_sem, reduceIte, reduceCtorEq, Nat.reduceAdd, Nat.reduceMul, Nat.reduceEqDiff, Nat.reduceLT, Nat.reduceLeDiff, Nat.reduceSub, Nat.reducePow, Nat.reduceBEq, Int.reduceToNat, List.reduceReplicate]) ?_ ?_
  · intro hb
    try simp only [hB, decide_eq_true_eq, decide_eq_false_iff_not] at hb
    exact absurd hb (by simp)
  · intro hb
    try simp only [hB, decide_eq_true_eq, decide_eq_false_iff_not] at hb
    refine AW.skip ?_
    refine hK2 _ _ _ ?_; clear hK2
    refine AW.seq fun K4 hK4 => ?_
    -- region 3
    refine AW.regionK 0 (fun ii => if ii = 3 then some (.upd [] (fun k => [(0, some ⟨k, k, 3, [[.rsl 1 X, .sl ⟨1, k, none⟩ 0 n none, .sl ⟨2, k, none⟩ 0 m none]]⟩), (1, some ⟨k, k, 1, ints L⟩), (2, some ⟨k, k, 1, ints R⟩)]) (fun k => .ptr ⟨0, k, none⟩ 0 0)) else if ii = 4 then some (.upd [20, 1020, 2020] (fun _ => []) (fun _ => .tup [.rsl 1 (ints T.l), .rsl 1 (ints T.q)])) else none) [0, 6, 8] [6] ?_
    simp only [go_sem, reduceIte, reduceCtorEq, Nat.reduceAdd, Nat.reduceMul, Nat.reduceEqDiff, Nat.reduceLT, Nat.reduceLeDiff, Nat.reduceSub, Nat.reducePow, Nat.reduceBEq, Int.reduceToNat, List.reduceReplicate, ints_len]
    repeat with_reducible refine cj ?_ ?_
    all_goals try first | (first | exact hmx | exact hre.upd (by simp only [List.map_cons, List.map_nil, go_sem, reduceIte, Nat.reduceEqDiff, htL, htR, vwc_ints])) | omega | exact ent (by kernel_rfl)
    refine hK4 _ _ _ ?_; clear hK4
    refine AW.seq fun K5 hK5 => ?_
    refine AW.seq fun K6 hK6 => ?_
    -- region 4
    refine AW.regionK 0 (fun _ => none) [0, 6, 8, 26] [6] ?_
    simp only [go_sem, reduceIte, reduceCtorEq, Nat.reduceAdd, Nat.reduceMul, Nat.reduceEqDiff, Nat.reduceLT, Nat.reduceLeDiff, Nat.reduceSub, Nat.reducePow, Nat.reduceBEq, Int.reduceToNat, List.reduceReplicate, ints_len]
    repeat with_reducible refine cj ?_ ?_
    all_goals try first | omega
    refine hK6 _ _ _ ?_; clear hK6
    -- cond 2
    refine AW.cond rfl (by simp only [go_sem, reduceIte, reduceCtorEq, Nat.reduceAdd, Nat.reduceMul, Nat.reduceEqDiff, Nat.reduceLT, Nat.reduceLeDiff, Nat.reduceSub, Nat.reducePow, Nat.reduceBEq, Int.reduceToNat, List.reduceReplicate]) ?_ ?_
    · intro hb
      try simp only [hB, decide_eq_true_eq, decide_eq_false_iff_not] at hb
      refine AW.seq fun K7 hK7 => ?_
      -- region 5
      refine AW.regionK 0 (fun _ => none) [6, 7] [6] ?_
      simp only [go_sem, reduceIte, reduceCtorEq, Nat.reduceAdd, Nat.reduceMul, Nat.reduceEqDiff, Nat.reduceLT, Nat.reduceLeDiff, Nat.reduceSub, Nat.reducePow, Nat.reduceBEq, Int.reduceToNat, List.reduceReplicate, ints_len]
      repeat with_reducible refine cj ?_ ?_
      all_goals try first | omega
      refine hK7 _ _ _ ?_; clear hK7
      refine AW.ret ?_
      rw [← hQr]
      simp only [go_sem, reduceIte, reduceCtorEq, Nat.reduceAdd, Nat.reduceMul, Nat.reduceEqDiff, Nat.reduceLT, Nat.reduceLeDiff, Nat.reduceSub, Nat.reducePow, Nat.reduceBEq, Int.reduceToNat, List.reduceReplicate, ints_len]
      exact Wk.of_eq (by rw [if_pos (by omega)])
    · intro hb
      try simp only [hB, decide_eq_true_eq, decide_eq_false_iff_not] at hb
      refine AW.skip ?_
      refine hK5 _ _ _ ?_; clear hK5
      refine AW.seq fun K8 hK8 => ?_
      -- region 6
      refine AW.regionK 0 (fun ii => if ii = 2 then some (.reads true (.tup [.agg [.int .i64 n, .rsl 1 (words (setW (rowL n T.l) n))], .int .i64 0])) else none) [6, 7] [6] ?_
      simp only [go_sem, reduceIte, reduceCtorEq, Nat.reduceAdd, Nat.reduceMul, Nat.reduceEqDiff, Nat.reduceLT, Nat.reduceLeDiff, Nat.reduceSub, Nat.reducePow, Nat.reduceBEq, Int.reduceToNat, List.reduceReplicate, ints_len]
      repeat with_reducible refine cj ?_ ?_
      all_goals try first | (exact hol) | omega | exact ent (by kernel_rfl)
      refine hK8 _ _ _ ?_; clear hK8
      refine AW.ret ?_
      rw [← hQr]
      simp only [go_sem, reduceIte, reduceCtorEq, Nat.reduceAdd, Nat.reduceMul, Nat.reduceEqDiff, Nat.reduceLT, Nat.reduceLeDiff, Nat.reduceSub, Nat.reducePow, Nat.reduceBEq, Int.reduceToNat, List.reduceReplicate, ints_len]
      exact Wk.of_eq (by rw [if_neg (by omega)])
end Go.Proofs.M

