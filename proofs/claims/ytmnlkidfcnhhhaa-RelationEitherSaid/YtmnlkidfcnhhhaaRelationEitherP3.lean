/- Lemmas and contracts, part 3: an abstract machine over the model, and the functions that the statement reaches. -/
import Derived.Test.YtmnlkidfcnhhhaaRelationEitherP2
set_option linter.unusedVariables false
set_option linter.unusedSimpArgs false
namespace Go.Proofs.R
open Go.AM Go
set_option maxRecDepth 100000
set_option maxHeartbeats 1000000
theorem bwords_r (n : Int) (h0 : 0 ≤ n) (h1 : n ≤ 1000000) : Reads Try.prog 62 false [.int .i64 n] (.int .i64 (wordsN n)) := by
  have hd : 0 ≤ (n + 64 - 1).tdiv 64 ∧ (n + 64 - 1).tdiv 64 ≤ 1000064 := by rw [Int.tdiv_eq_ediv_of_nonneg (by omega)]; omega
  refine Reads.body (rs := [.tmp 2]) Try.func62 rfl Try.ntmps62 rfl (by simp) ?_
  generalize hQr : retQ _ _ _ = Qr
  refine AW.seq fun K1 hK1 => ?_
  -- region 0
  refine AW.regionK 0 (fun _ => none) [0] [] ?_
  simp only [go_sem, reduceIte, reduceCtorEq, Nat.reduceAdd, Nat.reduceMul, Nat.reduceEqDiff, Nat.reduceLT, Nat.reduceLeDiff, Nat.reduceSub, Nat.reducePow, Nat.reduceBEq, Int.reduceToNat, List.reduceReplicate]
  repeat with_reducible refine cj ?_ ?_
  all_goals try first | omega
  refine hK1 _ _ _ ?_; clear hK1
  refine AW.seq fun K2 hK2 => ?_
  -- region 1
  refine AW.regionK 0 (fun _ => none) [2] [] ?_
  simp only [go_sem, reduceIte, reduceCtorEq, Nat.reduceAdd, Nat.reduceMul, Nat.reduceEqDiff, Nat.reduceLT, Nat.reduceLeDiff, Nat.reduceSub, Nat.reducePow, Nat.reduceBEq, Int.reduceToNat, List.reduceReplicate]
  repeat with_reducible refine cj ?_ ?_
  all_goals try first | omega
  refine hK2 _ _ _ ?_; clear hK2
  refine AW.ret ?_
  rw [← hQr]
  simp only [go_sem, reduceIte, reduceCtorEq, Nat.reduceAdd, Nat.reduceMul, Nat.reduceEqDiff, Nat.reduceLT, Nat.reduceLeDiff, Nat.reduceSub, Nat.reducePow, Nat.reduceBEq, Int.reduceToNat, List.reduceReplicate]
  exact Wk.of_eq (by simp [wordsN])
theorem rwords_r (n : Int) (h0 : 0 ≤ n) (h1 : n ≤ 1000000) : Reads Try.prog 61 false [.int .i64 n] (.int .i64 (wordsN n)) := by
  have hw := wordsN_ref n
  have hd : 0 ≤ (n + 63).tdiv 64 ∧ (n + 63).tdiv 64 ≤ 1000064 := by rw [Int.tdiv_eq_ediv_of_nonneg (by omega)]; omega
  refine Reads.body (rs := [.tmp 2]) Try.func61 rfl Try.ntmps61 rfl (by simp) ?_
  generalize hQr : retQ _ _ _ = Qr
  refine AW.seq fun K1 hK1 => ?_
  -- region 0
  refine AW.regionK 0 (fun _ => none) [0] [] ?_
  simp only [go_sem, reduceIte, reduceCtorEq, Nat.reduceAdd, Nat.reduceMul, Nat.reduceEqDiff, Nat.reduceLT, Nat.reduceLeDiff, Nat.reduceSub, Nat.reducePow, Nat.reduceBEq, Int.reduceToNat, List.reduceReplicate]
  repeat with_reducible refine cj ?_ ?_
  all_goals try first | omega
  refine hK1 _ _ _ ?_; clear hK1
  refine AW.seq fun K2 hK2 => ?_
  -- region 1
  refine AW.regionK 0 (fun _ => none) [2] [] ?_
  simp only [go_sem, reduceIte, reduceCtorEq, Nat.reduceAdd, Nat.reduceMul, Nat.reduceEqDiff, Nat.reduceLT, Nat.reduceLeDiff, Nat.reduceSub, Nat.reducePow, Nat.reduceBEq, Int.reduceToNat, List.reduceReplicate]
  repeat with_reducible refine cj ?_ ?_
  all_goals try first | omega
  refine hK2 _ _ _ ?_; clear hK2
  refine AW.ret ?_
  rw [← hQr]
  simp only [go_sem, reduceIte, reduceCtorEq, Nat.reduceAdd, Nat.reduceMul, Nat.reduceEqDiff, Nat.reduceLT, Nat.reduceLeDiff, Nat.reduceSub, Nat.reducePow, Nat.reduceBEq, Int.reduceToNat, List.reduceReplicate]
  exact Wk.of_eq (by rw [hw])
theorem bvalid_b (N : Int) (W : List Int) (hl : W.length ≤ 9223372036854775807) (hz : 0 < W.length) : Reads Try.prog 50 false [.agg [.int .i64 N, .rsl 1 (words W)]] (.bool (validS N W)) := by
  have hwr := bwords_r N
  refine Reads.body (rs := [.tmp 2]) Try.func50 rfl Try.ntmps50 rfl (by simp) ?_
  generalize hQr : retQ _ _ _ = Qr
  refine AW.seq fun K1 hK1 => ?_
  -- region 0
  refine AW.regionK 0 (fun _ => none) [1] [1] ?_
  simp only [go_sem, reduceIte, reduceCtorEq, Nat.reduceAdd, Nat.reduceMul, Nat.reduceEqDiff, Nat.reduceLT, Nat.reduceLeDiff, Nat.reduceSub, Nat.reducePow, Nat.reduceBEq, Int.reduceToNat, List.reduceReplicate]
  repeat with_reducible refine cj ?_ ?_
  all_goals try first | omega
  refine hK1 _ _ _ ?_; clear hK1
  refine AW.seq fun K2 hK2 => ?_
  refine AW.seq fun K3 hK3 => ?_
  -- region 1
  refine AW.regionD mixed 0 (fun ii => if ii = 14 then some (.reads false (.int .i64 (wordsN N))) else none) [1, 20] [1] ?_
  simp only [go_sem, reduceIte, reduceCtorEq, Nat.reduceAdd, Nat.reduceMul, Nat.reduceEqDiff, Nat.reduceLT, Nat.reduceLeDiff, Nat.reduceSub, Nat.reducePow, Nat.reduceBEq, Int.reduceToNat, List.reduceReplicate]
  repeat with_reducible refine cj ?_ ?_
  all_goals try first | ((intro hh; refine ⟨hh, ?_⟩; simp at hh; exact hwr (by omega) (by omega))) | (intros; (repeat' apply And.intro) <;> first | assumption | ((intro hh; refine ⟨hh, ?_⟩; simp at hh; exact hwr (by omega) (by omega)))) | omega | exact chk (by kernel_rfl) | exact ent (by kernel_rfl) | (intro hgd; exact absurd hgd (by decide)) | rfl | (simp only [go_sem, reduceIte, reduceCtorEq, Nat.reduceAdd, Nat.reduceMul, Nat.reduceEqDiff, Nat.reduceLT, Nat.reduceLeDiff, Nat.reduceSub, Nat.reducePow, Nat.reduceBEq, Int.reduceToNat, List.reduceReplicate]; done) | (intro _hgd; simp_all [go_sem]; done)
  refine hK3 _ _ _ ?_; clear hK3
  -- cond 1
  refine AW.cond rfl (by simp only [go_sem, reduceIte, reduceCtorEq, Nat.reduceAdd, Nat.reduceMul, Nat.reduceEqDiff, Nat.reduceLT, Nat.reduceLeDiff, Nat.reduceSub, Nat.reducePow, Nat.reduceBEq, Int.reduceToNat, List.reduceReplicate]) ?_ ?_
  · intro hb
    try simp only [hB, decide_eq_true_eq, decide_eq_false_iff_not] at hb
    refine AW.seq fun K4 hK4 => ?_
    -- region 2
    refine AW.regionK 0 (fun _ => none) [2] [] ?_
    simp only [go_sem, reduceIte, reduceCtorEq, Nat.reduceAdd, Nat.reduceMul, Nat.reduceEqDiff, Nat.reduceLT, Nat.reduceLeDiff, Nat.reduceSub, Nat.reducePow, Nat.reduceBEq, Int.reduceToNat, List.reduceReplicate]
    repeat with_reducible refine cj ?_ ?_
    all_goals try first | omega
    refine hK4 _ _ _ ?_; clear hK4
    refine AW.ret ?_
    rw [← hQr]
    simp only [go_sem, reduceIte, reduceCtorEq, Nat.reduceAdd, Nat.reduceMul, Nat.reduceEqDiff, Nat.reduceLT, Nat.reduceLeDiff, Nat.reduceSub, Nat.reducePow, Nat.reduceBEq, Int.reduceToNat, List.reduceReplicate]
    exact Wk.of_eq (by congr 1; symm; simp [validS]; intros; omega)
  · intro hb
    try simp only [hB, decide_eq_true_eq, decide_eq_false_iff_not] at hb
    have hwn := wordsN_rng (n := N) (by omega)
    have hmod : 0 ≤ N.tmod 64 ∧ N.tmod 64 < 64 := by rw [Int.tmod_eq_emod_of_nonneg (by omega)]; omega
    have hpre : 0 ≤ N ∧ N ≤ 512 ∧ (W.length : Int) = wordsN N := by omega
    have hgw : (words W).getD ((W.length : Int) - 1).toNat [] = [.int .u64 (W.getD (W.length - 1) 0)] := by rw [show ((W.length : Int) - 1).toNat = W.length - 1 by omega]; exact words_getD (by omega)
    refine AW.skip ?_
    refine hK2 _ _ _ ?_; clear hK2
    refine AW.seq fun K5 hK5 => ?_
    -- region 3
    refine AW.regionK 0 (fun _ => none) [1, 3] [1] ?_
    simp only [go_sem, reduceIte, reduceCtorEq, Nat.reduceAdd, Nat.reduceMul, Nat.reduceEqDiff, Nat.reduceLT, Nat.reduceLeDiff, Nat.reduceSub, Nat.reducePow, Nat.reduceBEq, Int.reduceToNat, List.reduceReplicate]
    repeat with_reducible refine cj ?_ ?_
    all_goals try first | omega
    refine hK5 _ _ _ ?_; clear hK5
    refine AW.seq fun K6 hK6 => ?_
    -- region 4
    refine AW.regionK 0 (fun _ => none) [2] [] ?_
    simp only [go_sem, reduceIte, reduceCtorEq, Nat.reduceAdd, Nat.reduceMul, Nat.reduceEqDiff, Nat.reduceLT, Nat.reduceLeDiff, Nat.reduceSub, Nat.reducePow, Nat.reduceBEq, Int.reduceToNat, List.reduceReplicate, hgw]
    repeat with_reducible refine cj ?_ ?_
    all_goals try first | ((intro hh; (repeat' apply And.intro) <;> first | exact hh | omega)) | (intros; (repeat' apply And.intro) <;> first | assumption | ((intro hh; (repeat' apply And.intro) <;> first | exact hh | omega))) | omega | (intro hgd; exact absurd hgd (by decide)) | rfl | (simp only [go_sem, reduceIte, reduceCtorEq, Nat.reduceAdd, Nat.reduceMul, Nat.reduceEqDiff, Nat.reduceLT, Nat.reduceLeDiff, Nat.reduceSub, Nat.reducePow, Nat.reduceBEq, Int.reduceToNat, List.reduceReplicate, hgw]; done) | (intro _hgd; simp_all [go_sem]; done)
    refine hK6 _ _ _ ?_; clear hK6
    refine AW.ret ?_
    rw [← hQr]
    simp only [go_sem, reduceIte, reduceCtorEq, Nat.reduceAdd, Nat.reduceMul, Nat.reduceEqDiff, Nat.reduceLT, Nat.reduceLeDiff, Nat.reduceSub, Nat.reducePow, Nat.reduceBEq, Int.reduceToNat, List.reduceReplicate]
    exact Wk.of_eq (by simp [validS, topB, hpre.1, hpre.2.1, hpre.2.2])
theorem words_nil_get (i : Nat) : (words []).getD i [] = [] := rfl
theorem words_nil_len : (words []).length = 0 := rfl
theorem bvalid_a (N : Int) : Reads Try.prog 50 false [.agg [.int .i64 N, .rsl 1 (words [])]] (.bool (validS N [])) := by
  have hwr := bwords_r N
  refine Reads.body (rs := [.tmp 2]) Try.func50 rfl Try.ntmps50 rfl (by simp) ?_
  generalize hQr : retQ _ _ _ = Qr
  refine AW.seq fun K1 hK1 => ?_
  -- region 0
  refine AW.regionK 0 (fun _ => none) [1] [1] ?_
  simp only [go_sem, reduceIte, reduceCtorEq, Nat.reduceAdd, Nat.reduceMul, Nat.reduceEqDiff, Nat.reduceLT, Nat.reduceLeDiff, Nat.reduceSub, Nat.reducePow, Nat.reduceBEq, Int.reduceToNat, List.reduceReplicate]
  repeat with_reducible refine cj ?_ ?_
  all_goals try first | omega
  refine hK1 _ _ _ ?_; clear hK1
  refine AW.seq fun K2 hK2 => ?_
  refine AW.seq fun K3 hK3 => ?_
  -- region 1
  refine AW.regionD mixed 0 (fun ii => if ii = 14 then some (.reads false (.int .i64 (wordsN N))) else none) [1, 20] [1] ?_
  simp only [go_sem, reduceIte, reduceCtorEq, Nat.reduceAdd, Nat.reduceMul, Nat.reduceEqDiff, Nat.reduceLT, Nat.reduceLeDiff, Nat.reduceSub, Nat.reducePow, Nat.reduceBEq, Int.reduceToNat, List.reduceReplicate, words_nil_len]
  repeat with_reducible refine cj ?_ ?_
  all_goals try first | ((intro hh; refine ⟨hh, ?_⟩; simp at hh; exact hwr (by omega) (by omega))) | (intros; (repeat' apply And.intro) <;> first | assumption | ((intro hh; refine ⟨hh, ?_⟩; simp at hh; exact hwr (by omega) (by omega)))) | omega | exact chk (by kernel_rfl) | exact ent (by kernel_rfl) | (intro hgd; exact absurd hgd (by decide)) | rfl | (simp only [go_sem, reduceIte, reduceCtorEq, Nat.reduceAdd, Nat.reduceMul, Nat.reduceEqDiff, Nat.reduceLT, Nat.reduceLeDiff, Nat.reduceSub, Nat.reducePow, Nat.reduceBEq, Int.reduceToNat, List.reduceReplicate, words_nil_len]; done) | (intro _hgd; simp_all [go_sem]; done)
  refine hK3 _ _ _ ?_; clear hK3
  -- cond 1
  refine AW.cond rfl (by simp only [go_sem, reduceIte, reduceCtorEq, Nat.reduceAdd, Nat.reduceMul, Nat.reduceEqDiff, Nat.reduceLT, Nat.reduceLeDiff, Nat.reduceSub, Nat.reducePow, Nat.reduceBEq, Int.reduceToNat, List.reduceReplicate]) ?_ ?_
  · intro hb
    try simp only [hB, decide_eq_true_eq, decide_eq_false_iff_not] at hb
    refine AW.seq fun K4 hK4 => ?_
    -- region 2
    refine AW.regionK 0 (fun _ => none) [2] [] ?_
    simp only [go_sem, reduceIte, reduceCtorEq, Nat.reduceAdd, Nat.reduceMul, Nat.reduceEqDiff, Nat.reduceLT, Nat.reduceLeDiff, Nat.reduceSub, Nat.reducePow, Nat.reduceBEq, Int.reduceToNat, List.reduceReplicate]
    repeat with_reducible refine cj ?_ ?_
    all_goals try first | omega
    refine hK4 _ _ _ ?_; clear hK4
    refine AW.ret ?_
    rw [← hQr]
    simp only [go_sem, reduceIte, reduceCtorEq, Nat.reduceAdd, Nat.reduceMul, Nat.reduceEqDiff, Nat.reduceLT, Nat.reduceLeDiff, Nat.reduceSub, Nat.reducePow, Nat.reduceBEq, Int.reduceToNat, List.reduceReplicate]
    exact Wk.of_eq (by congr 1; symm; simp [validS]; intros; omega)
  · intro hb
    try simp only [hB, decide_eq_true_eq, decide_eq_false_iff_not] at hb
    have hwn := wordsN_rng (n := N) (by omega)
    obtain rfl : N = 0 := by omega
    refine AW.skip ?_
    refine hK2 _ _ _ ?_; clear hK2
    refine AW.seq fun K5 hK5 => ?_
    -- region 3
    refine AW.regionK 0 (fun _ => none) [1, 3] [1] ?_
    simp only [go_sem, reduceIte, reduceCtorEq, Nat.reduceAdd, Nat.reduceMul, Nat.reduceEqDiff, Nat.reduceLT, Nat.reduceLeDiff, Nat.reduceSub, Nat.reducePow, Nat.reduceBEq, Int.reduceToNat, List.reduceReplicate, Int.zero_tmod]
    repeat with_reducible refine cj ?_ ?_
    all_goals try first | omega
    refine hK5 _ _ _ ?_; clear hK5
    refine AW.seq fun K6 hK6 => ?_
    -- region 4
    refine AW.regionK 0 (fun _ => none) [2] [] ?_
    simp only [go_sem, reduceIte, reduceCtorEq, Nat.reduceAdd, Nat.reduceMul, Nat.reduceEqDiff, Nat.reduceLT, Nat.reduceLeDiff, Nat.reduceSub, Nat.reducePow, Nat.reduceBEq, Int.reduceToNat, List.reduceReplicate, words_nil_get, words_nil_len, List.getD_nil]
    repeat with_reducible refine cj ?_ ?_
    all_goals try first | omega | (intros; (repeat' apply And.intro) <;> first | assumption | omega | decide) | (intro hgd; exact absurd hgd (by decide)) | rfl | (simp only [go_sem, reduceIte, reduceCtorEq, Nat.reduceAdd, Nat.reduceMul, Nat.reduceEqDiff, Nat.reduceLT, Nat.reduceLeDiff, Nat.reduceSub, Nat.reducePow, Nat.reduceBEq, Int.reduceToNat, List.reduceReplicate, words_nil_get, words_nil_len, List.getD_nil]; done) | (intro _hgd; simp_all [go_sem]; done)
    refine hK6 _ _ _ ?_; clear hK6
    refine AW.ret ?_
    rw [← hQr]
    simp only [go_sem, reduceIte, reduceCtorEq, Nat.reduceAdd, Nat.reduceMul, Nat.reduceEqDiff, Nat.reduceLT, Nat.reduceLeDiff, Nat.reduceSub, Nat.reducePow, Nat.reduceBEq, Int.reduceToNat, List.reduceReplicate]
    exact Wk.of_eq (by rfl)
theorem bvalid_r (N : Int) (W : List Int) (hl : W.length ≤ 9223372036854775807) : Reads Try.prog 50 false [.agg [.int .i64 N, .rsl 1 (words W)]] (.bool (validS N W)) := by
  cases W with
  | nil => exact bvalid_a N
  | cons w l => exact bvalid_b N (w :: l) hl (by simp)
def badRow (n : Nat) (x : USet) : Bool := !(decide (x.N = n) && validS x.N x.W)
theorem vrow_r (rs : List USet) (x : USet) (hl : rs.length ≤ 9223372036854775807) (hx : x.W.length ≤ 9223372036854775807) : Reads Try.prog 49 false [.agg (rowV x), .rptr [.rsl 2 (rs.map rowV)]] (.bool (badRow rs.length x)) := by
  have hv := bvalid_r x.N x.W hx
  unfold rowV
  refine Reads.body (rs := [.tmp 3]) Try.func49 rfl Try.ntmps49 rfl (by simp) ?_
  generalize hQr : retQ _ _ _ = Qr
  refine AW.seq fun K1 hK1 => ?_
  -- region 0
  refine AW.regionK 0 (fun _ => none) [1, 2] [2] ?_
  simp only [go_sem, reduceIte, reduceCtorEq, Nat.reduceAdd, Nat.reduceMul, Nat.reduceEqDiff, Nat.reduceLT, Nat.reduceLeDiff, Nat.reduceSub, Nat.reducePow, Nat.reduceBEq, Int.reduceToNat, List.reduceReplicate]
  repeat with_reducible refine cj ?_ ?_
  all_goals try first | omega
  refine hK1 _ _ _ ?_; clear hK1
  refine AW.seq fun K2 hK2 => ?_
  -- region 1
  refine AW.regionK 0 (fun ii => if ii = 8 then some (.reads false (.bool (validS x.N x.W))) else none) [3] [] ?_
  simp only [go_sem, reduceIte, reduceCtorEq, Nat.reduceAdd, Nat.reduceMul, Nat.reduceEqDiff, Nat.reduceLT, Nat.reduceLeDiff, Nat.reduceSub, Nat.reducePow, Nat.reduceBEq, Int.reduceToNat, List.reduceReplicate]
  repeat with_reducible refine cj ?_ ?_
  all_goals try first | ((intro hh; exact ⟨hh, hv⟩)) | (intros; (repeat' apply And.intro) <;> first | assumption | ((intro hh; exact ⟨hh, hv⟩))) | omega | exact ent (by kernel_rfl) | (intro hgd; exact absurd hgd (by decide)) | rfl | (simp only [go_sem, reduceIte, reduceCtorEq, Nat.reduceAdd, Nat.reduceMul, Nat.reduceEqDiff, Nat.reduceLT, Nat.reduceLeDiff, Nat.reduceSub, Nat.reducePow, Nat.reduceBEq, Int.reduceToNat, List.reduceReplicate]; done) | (intro _hgd; simp_all [go_sem]; done)
  refine hK2 _ _ _ ?_; clear hK2
  refine AW.ret ?_
  rw [← hQr]
  simp only [go_sem, reduceIte, reduceCtorEq, Nat.reduceAdd, Nat.reduceMul, Nat.reduceEqDiff, Nat.reduceLT, Nat.reduceLeDiff, Nat.reduceSub, Nat.reducePow, Nat.reduceBEq, Int.reduceToNat, List.reduceReplicate]
  exact Wk.of_eq (by simp [badRow])
theorem ixrow_r (rs : List USet) (hl : rs.length ≤ 9223372036854775807) (hx : ∀ x ∈ rs, x.W.length ≤ 9223372036854775807) : Reads Try.prog 59 false [.rsl 2 (rs.map rowV), .fn 49 [.rptr [.rsl 2 (rs.map rowV)]]] (.int .i64 (ixf (badRow rs.length) rs)) := by
  have hbp := fun x hxm => vrow_r rs x hl (hx x hxm)
  refine Reads.body (rs := [.tmp 4]) Try.func59 rfl Try.ntmps59 rfl (by simp) ?_
  generalize hQr : retQ _ _ _ = Qr
  refine AW.seq fun K1 hK1 => ?_
  -- region 0
  refine AW.regionK 0 (fun _ => none) [0, 1] [] ?_
  simp only [go_sem, reduceIte, reduceCtorEq, Nat.reduceAdd, Nat.reduceMul, Nat.reduceEqDiff, Nat.reduceLT, Nat.reduceLeDiff, Nat.reduceSub, Nat.reducePow, Nat.reduceBEq, Int.reduceToNat, List.reduceReplicate]
  repeat with_reducible refine cj ?_ ?_
  all_goals try first | omega
  refine hK1 _ _ _ ?_; clear hK1
  refine AW.seq fun K2 hK2 => ?_
  refine AW.seq fun K3 hK3 => ?_
  -- region 1
  refine AW.regionK 0 (fun _ => none) [0, 1, 7, 8] [] ?_
  simp only [go_sem, reduceIte, reduceCtorEq, Nat.reduceAdd, Nat.reduceMul, Nat.reduceEqDiff, Nat.reduceLT, Nat.reduceLeDiff, Nat.reduceSub, Nat.reducePow, Nat.reduceBEq, Int.reduceToNat, List.reduceReplicate]
  repeat with_reducible refine cj ?_ ?_
  all_goals try first | omega
  refine hK3 _ _ _ ?_; clear hK3
  refine AW.block ?_
  -- loop 1
  refine AW.loopE (fun mm ee ss kk => ∃ (j : Nat), rs.length - j = mm ∧ ee = [(0, .rsl 2 (rs.map rowV)), (1, .fn 49 [.rptr [.rsl 2 (rs.map rowV)]]), (7, .int .i64 rs.length), (8, .int .i64 (j : Nat))] ∧ ss = [] ∧ (j ≤ rs.length ∧ (rs.take j).any (badRow rs.length) = false)) ?_ ?_
  · refine ⟨_, 0, rfl, ?henv, ?hstore, ?hst⟩
    case henv =>
      repeat' (first | rfl | refine env_cons ?_ ?_ | refine st_cons ?_ ?_ ?_ ?_ | refine int_eq ?_ | refine bool_eq ?_ | refine rsl_eq ?_ | refine osl_eq ?_ | refine sl_eq ?_ ?_ ?_ | refine ptr_eq ?_ ?_ ?_ | refine agg_eq ?_ | refine es_cons ?_ ?_ | refine row_cons ?_ ?_)
      all_goals (first | (simp; done) | omega | (simp; omega))
    case hstore =>
      repeat' (first | rfl | refine env_cons ?_ ?_ | refine st_cons ?_ ?_ ?_ ?_ | refine int_eq ?_ | refine bool_eq ?_ | refine rsl_eq ?_ | refine osl_eq ?_ | refine sl_eq ?_ ?_ ?_ | refine ptr_eq ?_ ?_ ?_ | refine agg_eq ?_ | refine es_cons ?_ ?_ | refine row_cons ?_ ?_)
      all_goals (first | (simp; done) | omega | (simp; omega))
    case hst =>
      first | trivial | omega | (simp; done) | (simp; omega)
  rintro mm ee ss kk ⟨j, rfl, rfl, rfl, hI⟩
  generalize hQl1 : thenQ _ _ = Ql1
  obtain ⟨hj, hall⟩ := hI
  refine AW.seq fun K4 hK4 => ?_
  -- region 2
  refine AW.regionK 0 (fun _ => none) [0, 1, 7, 8, 9] [] ?_
  simp only [go_sem, reduceIte, reduceCtorEq, Nat.reduceAdd, Nat.reduceMul, Nat.reduceEqDiff, Nat.reduceLT, Nat.reduceLeDiff, Nat.reduceSub, Nat.reducePow, Nat.reduceBEq, Int.reduceToNat, List.reduceReplicate]
  repeat with_reducible refine cj ?_ ?_
  all_goals try first | omega
  refine hK4 _ _ _ ?_; clear hK4
  refine AW.seq fun K5 hK5 => ?_
  -- cond 1
  refine AW.cond rfl (by simp only [go_sem, reduceIte, reduceCtorEq, Nat.reduceAdd, Nat.reduceMul, Nat.reduceEqDiff, Nat.reduceLT, Nat.reduceLeDiff, Nat.reduceSub, Nat.reducePow, Nat.reduceBEq, Int.reduceToNat, List.reduceReplicate]) ?_ ?_
  · intro hb
    try simp only [hB, decide_eq_true_eq, decide_eq_false_iff_not] at hb
    obtain ⟨x, hx⟩ := getI (l := rs) (j := j) (by omega)
    have hgx := getV (f := rowV) hx
    have hats := any_take_succ (p := badRow rs.length) hx
    have hbx := hbp x (List.mem_of_getElem? hx)
    refine AW.skip ?_
    refine hK5 _ _ _ ?_; clear hK5
    refine AW.seq fun K6 hK6 => ?_
    refine AW.block ?_
    refine AW.seq fun K7 hK7 => ?_
    -- region 3
    refine AW.regionK 0 (fun _ => none) [0, 1, 5, 7, 8] [] ?_
    simp only [go_sem, reduceIte, reduceCtorEq, Nat.reduceAdd, Nat.reduceMul, Nat.reduceEqDiff, Nat.reduceLT, Nat.reduceLeDiff, Nat.reduceSub, Nat.reducePow, Nat.reduceBEq, Int.reduceToNat, List.reduceReplicate]
    repeat with_reducible refine cj ?_ ?_
    all_goals try first | omega
    refine hK7 _ _ _ ?_; clear hK7
    refine AW.seq fun K8 hK8 => ?_
    -- region 4
    refine AW.regionK 0 (fun ii => if ii = 5 then some (.reads false (.bool (badRow rs.length x))) else none) [0, 1, 5, 7, 8, 16] [] ?_
    simp only [go_sem, reduceIte, reduceCtorEq, Nat.reduceAdd, Nat.reduceMul, Nat.reduceEqDiff, Nat.reduceLT, Nat.reduceLeDiff, Nat.reduceSub, Nat.reducePow, Nat.reduceBEq, Int.reduceToNat, List.reduceReplicate, hgx, rowV]
    repeat with_reducible refine cj ?_ ?_
    all_goals try first | (exact hbx) | omega | exact ent (by kernel_rfl)
    refine hK8 _ _ _ ?_; clear hK8
    -- cond 2
    refine AW.cond rfl (by simp only [go_sem, reduceIte, reduceCtorEq, Nat.reduceAdd, Nat.reduceMul, Nat.reduceEqDiff, Nat.reduceLT, Nat.reduceLeDiff, Nat.reduceSub, Nat.reducePow, Nat.reduceBEq, Int.reduceToNat, List.reduceReplicate]) ?_ ?_
    · intro hb
      try simp only [hB, decide_eq_true_eq, decide_eq_false_iff_not] at hb
      refine AW.seq fun K9 hK9 => ?_
      -- region 5
      refine AW.regionK 0 (fun _ => none) [4] [] ?_
      simp only [go_sem, reduceIte, reduceCtorEq, Nat.reduceAdd, Nat.reduceMul, Nat.reduceEqDiff, Nat.reduceLT, Nat.reduceLeDiff, Nat.reduceSub, Nat.reducePow, Nat.reduceBEq, Int.reduceToNat, List.reduceReplicate]
      repeat with_reducible refine cj ?_ ?_
      all_goals try first | omega
      refine hK9 _ _ _ ?_; clear hK9
      refine AW.ret ?_
      rw [← hQl1]
      rw [← hQr]
      simp only [go_sem, reduceIte, reduceCtorEq, Nat.reduceAdd, Nat.reduceMul, Nat.reduceEqDiff, Nat.reduceLT, Nat.reduceLeDiff, Nat.reduceSub, Nat.reducePow, Nat.reduceBEq, Int.reduceToNat, List.reduceReplicate]
      exact Wk.of_eq (by rw [ixf_at hx hb hall])
    · intro hb
      try simp only [hB, decide_eq_true_eq, decide_eq_false_iff_not] at hb
      refine AW.skip ?_
      refine hK6 _ _ _ ?_; clear hK6
      -- region 6
      refine AW.regionK 0 (fun _ => none) [0, 1, 7, 8] [] ?_
      simp only [go_sem, reduceIte, reduceCtorEq, Nat.reduceAdd, Nat.reduceMul, Nat.reduceEqDiff, Nat.reduceLT, Nat.reduceLeDiff, Nat.reduceSub, Nat.reducePow, Nat.reduceBEq, Int.reduceToNat, List.reduceReplicate]
      repeat with_reducible refine cj ?_ ?_
      all_goals try first | omega
      rw [← hQl1]
      change Exists _
      refine ⟨_, ?hm, j + 1, rfl, ?henv, ?hstore, ?hst⟩
      case henv =>
        repeat' (first | rfl | refine env_cons ?_ ?_ | refine st_cons ?_ ?_ ?_ ?_ | refine int_eq ?_ | refine bool_eq ?_ | refine rsl_eq ?_ | refine osl_eq ?_ | refine sl_eq ?_ ?_ ?_ | refine ptr_eq ?_ ?_ ?_ | refine agg_eq ?_ | refine es_cons ?_ ?_ | refine row_cons ?_ ?_)
        all_goals (first | (simp; done) | omega | (simp; omega))
      case hstore =>
        repeat' (first | rfl | refine env_cons ?_ ?_ | refine st_cons ?_ ?_ ?_ ?_ | refine int_eq ?_ | refine bool_eq ?_ | refine rsl_eq ?_ | refine osl_eq ?_ | refine sl_eq ?_ ?_ ?_ | refine ptr_eq ?_ ?_ ?_ | refine agg_eq ?_ | refine es_cons ?_ ?_ | refine row_cons ?_ ?_)
        all_goals (first | (simp; done) | omega | (simp; omega))
      case hst =>
        exact ⟨by omega, by rw [hats, hall, hb]; rfl⟩
      case hm => omega
  · intro hb
    try simp only [hB, decide_eq_true_eq, decide_eq_false_iff_not] at hb
    refine AW.keep [] [] ?_
    try simp only [go_sem, reduceIte, reduceCtorEq, Nat.reduceAdd, Nat.reduceMul, Nat.reduceEqDiff, Nat.reduceLT, Nat.reduceLeDiff, Nat.reduceSub, Nat.reducePow, Nat.reduceBEq, Int.reduceToNat, List.reduceReplicate]
    refine AW.exit ?_
    rw [← hQl1]
    refine hK2 _ _ _ ?_; clear hK2
    refine AW.seq fun K10 hK10 => ?_
    -- region 7
    refine AW.regionK 0 (fun _ => none) [4] [] ?_
    simp only [go_sem, reduceIte, reduceCtorEq, Nat.reduceAdd, Nat.reduceMul, Nat.reduceEqDiff, Nat.reduceLT, Nat.reduceLeDiff, Nat.reduceSub, Nat.reducePow, Nat.reduceBEq, Int.reduceToNat, List.reduceReplicate]
    repeat with_reducible refine cj ?_ ?_
    all_goals try first | omega
    refine hK10 _ _ _ ?_; clear hK10
    refine AW.ret ?_
    rw [← hQr]
    simp only [go_sem, reduceIte, reduceCtorEq, Nat.reduceAdd, Nat.reduceMul, Nat.reduceEqDiff, Nat.reduceLT, Nat.reduceLeDiff, Nat.reduceSub, Nat.reducePow, Nat.reduceBEq, Int.reduceToNat, List.reduceReplicate]
    exact Wk.of_eq (by rw [List.take_of_length_le (by omega)] at hall; rw [ixf_none hall])
theorem ctrow_r (rs : List USet) (hl : rs.length ≤ 9223372036854775807) (hx : ∀ x ∈ rs, x.W.length ≤ 9223372036854775807) : Reads Try.prog 41 false [.rsl 2 (rs.map rowV), .fn 49 [.rptr [.rsl 2 (rs.map rowV)]]] (.bool (rs.any (badRow rs.length))) := by
  have h := ixrow_r rs hl hx
  have hge := ixf_ge (badRow rs.length) rs
  refine Reads.body (rs := [.tmp 4]) Try.func41 rfl Try.ntmps41 rfl (by simp) ?_
  generalize hQr : retQ _ _ _ = Qr
  refine AW.seq fun K1 hK1 => ?_
  -- region 0
  refine AW.regionK 0 (fun _ => none) [0, 1] [] ?_
  simp only [go_sem, reduceIte, reduceCtorEq, Nat.reduceAdd, Nat.reduceMul, Nat.reduceEqDiff, Nat.reduceLT, Nat.reduceLeDiff, Nat.reduceSub, Nat.reducePow, Nat.reduceBEq, Int.reduceToNat, List.reduceReplicate]
  repeat with_reducible refine cj ?_ ?_
  all_goals try first | omega
  refine hK1 _ _ _ ?_; clear hK1
  refine AW.seq fun K2 hK2 => ?_
  -- region 1
  refine AW.regionK 0 (fun ii => if ii = 2 then some (.reads false (.int .i64 (ixf (badRow rs.length) rs))) else none) [4] [] ?_
  simp only [go_sem, reduceIte, reduceCtorEq, Nat.reduceAdd, Nat.reduceMul, Nat.reduceEqDiff, Nat.reduceLT, Nat.reduceLeDiff, Nat.reduceSub, Nat.reducePow, Nat.reduceBEq, Int.reduceToNat, List.reduceReplicate]
  repeat with_reducible refine cj ?_ ?_
  all_goals try first | (exact h) | omega | exact ent (by kernel_rfl)
  refine hK2 _ _ _ ?_; clear hK2
  refine AW.ret ?_
  rw [← hQr]
  simp only [go_sem, reduceIte, reduceCtorEq, Nat.reduceAdd, Nat.reduceMul, Nat.reduceEqDiff, Nat.reduceLT, Nat.reduceLeDiff, Nat.reduceSub, Nat.reducePow, Nat.reduceBEq, Int.reduceToNat, List.reduceReplicate]
  exact Wk.of_eq (by rw [hge])
theorem not_any_all {α : Type} (p : α → Bool) (l : List α) : (!l.any fun x => !p x) = l.all p := by
  induction l with
  | nil => rfl
  | cons a l ih => simp only [List.any_cons, List.all_cons, Bool.not_or, ih, Bool.not_not]
theorem validR_any (rs : List USet) : validR rs = (decide (rs.length ≤ 512) && !rs.any (badRow rs.length)) := by
  unfold validR badRow; rw [not_any_all]
theorem rvalid_r (rs : List USet) (hl : rs.length ≤ 9223372036854775807) (hx : ∀ x ∈ rs, x.W.length ≤ 9223372036854775807) : Reads Try.prog 14 false [relV rs] (.bool (validR rs)) := by
  have h := Reads.flat (ctrow_r rs hl hx) rfl
  have hv := validR_any rs
  have e : ((rs.length : Int) ≤ 512) = (rs.length ≤ 512) := by apply propext; omega
  unfold relV
  refine Reads.body (rs := [.tmp 2]) Try.func14 rfl Try.ntmps14 rfl (by simp) ?_
  generalize hQr : retQ _ _ _ = Qr
  refine AW.seq fun K1 hK1 => ?_
  -- region 0
  refine AW.regionK 0 (fun _ => none) [1] [1] ?_
  simp only [go_sem, reduceIte, reduceCtorEq, Nat.reduceAdd, Nat.reduceMul, Nat.reduceEqDiff, Nat.reduceLT, Nat.reduceLeDiff, Nat.reduceSub, Nat.reducePow, Nat.reduceBEq, Int.reduceToNat, List.reduceReplicate]
  repeat with_reducible refine cj ?_ ?_
  all_goals try first | omega
  refine hK1 _ _ _ ?_; clear hK1
  refine AW.seq fun K2 hK2 => ?_
  -- region 1
  refine AW.regionK 0 (fun ii => if ii = 8 then some (.reads true (.bool (rs.any (badRow rs.length)))) else none) [2] [] ?_
  simp only [go_sem, reduceIte, reduceCtorEq, Nat.reduceAdd, Nat.reduceMul, Nat.reduceEqDiff, Nat.reduceLT, Nat.reduceLeDiff, Nat.reduceSub, Nat.reducePow, Nat.reduceBEq, Int.reduceToNat, List.reduceReplicate]
  repeat with_reducible refine cj ?_ ?_
  all_goals try first | ((intro hh; exact ⟨hh, h⟩)) | (intros; (repeat' apply And.intro) <;> first | assumption | ((intro hh; exact ⟨hh, h⟩))) | omega | exact ent (by kernel_rfl) | (intro hgd; exact absurd hgd (by decide)) | rfl | (simp only [go_sem, reduceIte, reduceCtorEq, Nat.reduceAdd, Nat.reduceMul, Nat.reduceEqDiff, Nat.reduceLT, Nat.reduceLeDiff, Nat.reduceSub, Nat.reducePow, Nat.reduceBEq, Int.reduceToNat, List.reduceReplicate]; done) | (intro _hgd; simp_all [go_sem]; done)
  refine hK2 _ _ _ ?_; clear hK2
  refine AW.ret ?_
  rw [← hQr]
  simp only [go_sem, reduceIte, reduceCtorEq, Nat.reduceAdd, Nat.reduceMul, Nat.reduceEqDiff, Nat.reduceLT, Nat.reduceLeDiff, Nat.reduceSub, Nat.reducePow, Nat.reduceBEq, Int.reduceToNat, List.reduceReplicate]
  exact Wk.of_eq (by rw [hv]; simp [e])
end Go.Proofs.R

namespace Go.Proofs.R
open Go.AM Go
set_option maxRecDepth 100000
set_option maxHeartbeats 1000000
theorem formed_a (N n : Int) (W : List Int) (hl : W.length ≤ 9223372036854775807) (hn0 : 0 ≤ n) (hn1 : n ≤ 512) (hm : n.tmod 64 = 0) : Reads Try.prog 51 false [.agg [.int .i64 N, .rsl 1 (words W)], .int .i64 n] (.bool (decide (N = n) && validS n W)) := by
  have hwe := wordsN_ref n
  have hwn := wordsN_rng (n := n) hn0
  have hdiv : 0 ≤ n.tdiv 64 ∧ n.tdiv 64 ≤ 512 ∧ n.tdiv 64 = wordsN n := by rw [← hwe]; rw [Int.tmod_eq_emod_of_nonneg hn0] at hm; rw [Int.tdiv_eq_ediv_of_nonneg (by omega), Int.tdiv_eq_ediv_of_nonneg (by omega)]; omega
  refine Reads.body (rs := [.tmp 4]) Try.func51 rfl Try.ntmps51 rfl (by simp) ?_
  generalize hQr : retQ _ _ _ = Qr
  refine AW.seq fun K1 hK1 => ?_
  -- region 0
  refine AW.regionK 0 (fun _ => none) [1, 2] [2] ?_
  simp only [go_sem, reduceIte, reduceCtorEq, Nat.reduceAdd, Nat.reduceMul, Nat.reduceEqDiff, Nat.reduceLT, Nat.reduceLeDiff, Nat.reduceSub, Nat.reducePow, Nat.reduceBEq, Int.reduceToNat, List.reduceReplicate]
  repeat with_reducible refine cj ?_ ?_
  all_goals try first | omega
  refine hK1 _ _ _ ?_; clear hK1
  refine AW.seq fun K2 hK2 => ?_
  refine AW.seq fun K3 hK3 => ?_
  -- region 1
  refine AW.regionK 0 (fun _ => none) [1, 2, 17] [2] ?_
  simp only [go_sem, reduceIte, reduceCtorEq, Nat.reduceAdd, Nat.reduceMul, Nat.reduceEqDiff, Nat.reduceLT, Nat.reduceLeDiff, Nat.reduceSub, Nat.reducePow, Nat.reduceBEq, Int.reduceToNat, List.reduceReplicate, hwe]
  repeat with_reducible refine cj ?_ ?_
  all_goals try first | omega | (intros; (repeat' apply And.intro) <;> first | assumption | omega | decide) | (intro hgd; exact absurd hgd (by decide)) | rfl | (simp only [go_sem, reduceIte, reduceCtorEq, Nat.reduceAdd, Nat.reduceMul, Nat.reduceEqDiff, Nat.reduceLT, Nat.reduceLeDiff, Nat.reduceSub, Nat.reducePow, Nat.reduceBEq, Int.reduceToNat, List.reduceReplicate, hwe]; done) | (intro _hgd; simp_all [go_sem]; done)
  refine hK3 _ _ _ ?_; clear hK3
  -- cond 1
  refine AW.cond rfl (by simp only [go_sem, reduceIte, reduceCtorEq, Nat.reduceAdd, Nat.reduceMul, Nat.reduceEqDiff, Nat.reduceLT, Nat.reduceLeDiff, Nat.reduceSub, Nat.reducePow, Nat.reduceBEq, Int.reduceToNat, List.reduceReplicate]) ?_ ?_
  · intro hb
    try simp only [hB, decide_eq_true_eq, decide_eq_false_iff_not] at hb
    refine AW.seq fun K4 hK4 => ?_
    -- region 2
    refine AW.regionK 0 (fun _ => none) [4] [] ?_
    simp only [go_sem, reduceIte, reduceCtorEq, Nat.reduceAdd, Nat.reduceMul, Nat.reduceEqDiff, Nat.reduceLT, Nat.reduceLeDiff, Nat.reduceSub, Nat.reducePow, Nat.reduceBEq, Int.reduceToNat, List.reduceReplicate]
    repeat with_reducible refine cj ?_ ?_
    all_goals try first | omega
    refine hK4 _ _ _ ?_; clear hK4
    refine AW.ret ?_
    rw [← hQr]
    simp only [go_sem, reduceIte, reduceCtorEq, Nat.reduceAdd, Nat.reduceMul, Nat.reduceEqDiff, Nat.reduceLT, Nat.reduceLeDiff, Nat.reduceSub, Nat.reducePow, Nat.reduceBEq, Int.reduceToNat, List.reduceReplicate]
    exact Wk.of_eq (by congr 1; symm; simp [validS]; intros; omega)
  · intro hb
    try simp only [hB, decide_eq_true_eq, decide_eq_false_iff_not] at hb
    have hlen : (W.length : Int) = wordsN n := by omega
    have hNn : N = n := by omega
    have hgw : (words W).getD (n.tdiv 64).toNat [] = [] := by rw [List.getD_eq_getElem?_getD, List.getElem?_eq_none (by rw [words_len]; omega)]; rfl
    refine AW.skip ?_
    refine hK2 _ _ _ ?_; clear hK2
    refine AW.seq fun K5 hK5 => ?_
    -- region 3
    refine AW.regionK 0 (fun _ => none) [4] [] ?_
    simp only [go_sem, reduceIte, reduceCtorEq, Nat.reduceAdd, Nat.reduceMul, Nat.reduceEqDiff, Nat.reduceLT, Nat.reduceLeDiff, Nat.reduceSub, Nat.reducePow, Nat.reduceBEq, Int.reduceToNat, List.reduceReplicate, hgw, hm]
    repeat with_reducible refine cj ?_ ?_
    all_goals try first | ((intro hh; (repeat' apply And.intro) <;> first | exact hh | omega | (exfalso; simp at hh; done))) | (intros; (repeat' apply And.intro) <;> first | assumption | ((intro hh; (repeat' apply And.intro) <;> first | exact hh | omega | (exfalso; simp at hh; done)))) | omega | (intro hgd; exact absurd hgd (by decide)) | rfl | (simp only [go_sem, reduceIte, reduceCtorEq, Nat.reduceAdd, Nat.reduceMul, Nat.reduceEqDiff, Nat.reduceLT, Nat.reduceLeDiff, Nat.reduceSub, Nat.reducePow, Nat.reduceBEq, Int.reduceToNat, List.reduceReplicate, hgw, hm]; done) | (intro _hgd; simp_all [go_sem]; done)
    refine hK5 _ _ _ ?_; clear hK5
    refine AW.ret ?_
    rw [← hQr]
    simp only [go_sem, reduceIte, reduceCtorEq, Nat.reduceAdd, Nat.reduceMul, Nat.reduceEqDiff, Nat.reduceLT, Nat.reduceLeDiff, Nat.reduceSub, Nat.reducePow, Nat.reduceBEq, Int.reduceToNat, List.reduceReplicate]
    exact Wk.of_eq (by simp [validS, topB, hm, hNn, hlen, hn0, hn1])
theorem formed_b (N n : Int) (W : List Int) (hl : W.length ≤ 9223372036854775807) (hn0 : 0 ≤ n) (hn1 : n ≤ 512) (hm : n.tmod 64 ≠ 0) : Reads Try.prog 51 false [.agg [.int .i64 N, .rsl 1 (words W)], .int .i64 n] (.bool (decide (N = n) && validS n W)) := by
  have hwe := wordsN_ref n
  have hwn := wordsN_rng (n := n) hn0
  have hmod : 0 ≤ n.tmod 64 ∧ n.tmod 64 < 64 := by rw [Int.tmod_eq_emod_of_nonneg (by omega)]; omega
  have hnz : n ≠ 0 := by rintro rfl; exact hm rfl
  have hwr : IntKind.u64.wrap (n.tmod 64) = n.tmod 64 := by simp [IntKind.wrap, IntKind.signed, IntKind.bits]; omega
  refine Reads.body (rs := [.tmp 4]) Try.func51 rfl Try.ntmps51 rfl (by simp) ?_
  generalize hQr : retQ _ _ _ = Qr
  refine AW.seq fun K1 hK1 => ?_
  -- region 0
  refine AW.regionK 0 (fun _ => none) [1, 2] [2] ?_
  simp only [go_sem, reduceIte, reduceCtorEq, Nat.reduceAdd, Nat.reduceMul, Nat.reduceEqDiff, Nat.reduceLT, Nat.reduceLeDiff, Nat.reduceSub, Nat.reducePow, Nat.reduceBEq, Int.reduceToNat, List.reduceReplicate]
  repeat with_reducible refine cj ?_ ?_
  all_goals try first | omega
  refine hK1 _ _ _ ?_; clear hK1
  refine AW.seq fun K2 hK2 => ?_
  refine AW.seq fun K3 hK3 => ?_
  -- region 1
  refine AW.regionK 0 (fun _ => none) [1, 2, 17] [2] ?_
  simp only [go_sem, reduceIte, reduceCtorEq, Nat.reduceAdd, Nat.reduceMul, Nat.reduceEqDiff, Nat.reduceLT, Nat.reduceLeDiff, Nat.reduceSub, Nat.reducePow, Nat.reduceBEq, Int.reduceToNat, List.reduceReplicate, hwe]
  repeat with_reducible refine cj ?_ ?_
  all_goals try first | omega | (intros; (repeat' apply And.intro) <;> first | assumption | omega | decide) | (intro hgd; exact absurd hgd (by decide)) | rfl | (simp only [go_sem, reduceIte, reduceCtorEq, Nat.reduceAdd, Nat.reduceMul, Nat.reduceEqDiff, Nat.reduceLT, Nat.reduceLeDiff, Nat.reduceSub, Nat.reducePow, Nat.reduceBEq, Int.reduceToNat, List.reduceReplicate, hwe]; done) | (intro _hgd; simp_all [go_sem]; done)
  refine hK3 _ _ _ ?_; clear hK3
  -- cond 1
  refine AW.cond rfl (by simp only [go_sem, reduceIte, reduceCtorEq, Nat.reduceAdd, Nat.reduceMul, Nat.reduceEqDiff, Nat.reduceLT, Nat.reduceLeDiff, Nat.reduceSub, Nat.reducePow, Nat.reduceBEq, Int.reduceToNat, List.reduceReplicate]) ?_ ?_
  · intro hb
    try simp only [hB, decide_eq_true_eq, decide_eq_false_iff_not] at hb
    refine AW.seq fun K4 hK4 => ?_
    -- region 2
    refine AW.regionK 0 (fun _ => none) [4] [] ?_
    simp only [go_sem, reduceIte, reduceCtorEq, Nat.reduceAdd, Nat.reduceMul, Nat.reduceEqDiff, Nat.reduceLT, Nat.reduceLeDiff, Nat.reduceSub, Nat.reducePow, Nat.reduceBEq, Int.reduceToNat, List.reduceReplicate]
    repeat with_reducible refine cj ?_ ?_
    all_goals try first | omega
    refine hK4 _ _ _ ?_; clear hK4
    refine AW.ret ?_
    rw [← hQr]
    simp only [go_sem, reduceIte, reduceCtorEq, Nat.reduceAdd, Nat.reduceMul, Nat.reduceEqDiff, Nat.reduceLT, Nat.reduceLeDiff, Nat.reduceSub, Nat.reducePow, Nat.reduceBEq, Int.reduceToNat, List.reduceReplicate]
    exact Wk.of_eq (by congr 1; symm; simp [validS]; intros; omega)
  · intro hb
    try simp only [hB, decide_eq_true_eq, decide_eq_false_iff_not] at hb
    have hlen : (W.length : Int) = wordsN n := by omega
    have hNn : N = n := by omega
    obtain ⟨hti, htl⟩ := top_ix hn0 hlen hm
    have hdiv : 0 ≤ n.tdiv 64 ∧ n.tdiv 64 ≤ 512 := by rw [Int.tdiv_eq_ediv_of_nonneg (by omega)]; omega
    have hgw : (words W).getD (n.tdiv 64).toNat [] = [.int .u64 (W.getD (W.length - 1) 0)] := by rw [← hti]; exact words_getD (by omega)
    refine AW.skip ?_
    refine hK2 _ _ _ ?_; clear hK2
    refine AW.seq fun K5 hK5 => ?_
    -- region 3
    refine AW.regionK 0 (fun _ => none) [4] [] ?_
    simp only [go_sem, reduceIte, reduceCtorEq, Nat.reduceAdd, Nat.reduceMul, Nat.reduceEqDiff, Nat.reduceLT, Nat.reduceLeDiff, Nat.reduceSub, Nat.reducePow, Nat.reduceBEq, Int.reduceToNat, List.reduceReplicate, hgw, hwr]
    repeat with_reducible refine cj ?_ ?_
    all_goals try first | ((intro hh; (repeat' apply And.intro) <;> first | exact hh | omega)) | (intros; (repeat' apply And.intro) <;> first | assumption | ((intro hh; (repeat' apply And.intro) <;> first | exact hh | omega))) | omega | (intro hgd; exact absurd hgd (by decide)) | rfl | (simp only [go_sem, reduceIte, reduceCtorEq, Nat.reduceAdd, Nat.reduceMul, Nat.reduceEqDiff, Nat.reduceLT, Nat.reduceLeDiff, Nat.reduceSub, Nat.reducePow, Nat.reduceBEq, Int.reduceToNat, List.reduceReplicate, hgw, hwr]; done) | (intro _hgd; simp_all [go_sem]; done)
    refine hK5 _ _ _ ?_; clear hK5
    refine AW.ret ?_
    rw [← hQr]
    simp only [go_sem, reduceIte, reduceCtorEq, Nat.reduceAdd, Nat.reduceMul, Nat.reduceEqDiff, Nat.reduceLT, Nat.reduceLeDiff, Nat.reduceSub, Nat.reducePow, Nat.reduceBEq, Int.reduceToNat, List.reduceReplicate]
    exact Wk.of_eq (by simp [validS, topB, hm, hNn, hlen, hn0, hn1])
theorem formed_r (N n : Int) (W : List Int) (hl : W.length ≤ 9223372036854775807) (hn0 : 0 ≤ n) (hn1 : n ≤ 512) : Reads Try.prog 51 false [.agg [.int .i64 N, .rsl 1 (words W)], .int .i64 n] (.bool (decide (N = n) && validS n W)) := by
  by_cases hm : n.tmod 64 = 0
  · exact formed_a N n W hl hn0 hn1 hm
  · exact formed_b N n W hl hn0 hn1 hm
def goodRow (n : Nat) (x : USet) : Bool := decide (x.N = n) && validS n x.W
theorem validR_good (rs : List USet) : validR rs = (decide (rs.length ≤ 512) && rs.all (goodRow rs.length)) := by
  unfold validR
  have : (fun x : USet => decide (x.N = (rs.length : Int)) && validS x.N x.W) = goodRow rs.length := by
    funext x
    unfold goodRow
    by_cases h : x.N = (rs.length : Int)
    · rw [h]
    · simp [h]
  rw [this]
theorem rrvalid_r (rs : List USet) (hl : rs.length ≤ 9223372036854775807) (hx : ∀ x ∈ rs, x.W.length ≤ 9223372036854775807) : Reads Try.prog 15 false [relV rs] (.bool (validR rs)) := by
  have hf := fun x hxm h => formed_r x.N (rs.length : Nat) x.W (hx x hxm) (by omega) h
  have hvg := validR_good rs
  unfold relV
  refine Reads.body (rs := [.tmp 2]) Try.func15 rfl Try.ntmps15 rfl (by simp) ?_
  generalize hQr : retQ _ _ _ = Qr
  refine AW.seq fun K1 hK1 => ?_
  -- region 0
  refine AW.regionK 0 (fun _ => none) [1] [1] ?_
  simp only [go_sem, reduceIte, reduceCtorEq, Nat.reduceAdd, Nat.reduceMul, Nat.reduceEqDiff, Nat.reduceLT, Nat.reduceLeDiff, Nat.reduceSub, Nat.reducePow, Nat.reduceBEq, Int.reduceToNat, List.reduceReplicate]
  repeat with_reducible refine cj ?_ ?_
  all_goals try first | omega
  refine hK1 _ _ _ ?_; clear hK1
  refine AW.seq fun K2 hK2 => ?_
  -- region 1
  refine AW.regionK 0 (fun _ => none) [1, 3] [1] ?_
  simp only [go_sem, reduceIte, reduceCtorEq, Nat.reduceAdd, Nat.reduceMul, Nat.reduceEqDiff, Nat.reduceLT, Nat.reduceLeDiff, Nat.reduceSub, Nat.reducePow, Nat.reduceBEq, Int.reduceToNat, List.reduceReplicate]
  repeat with_reducible refine cj ?_ ?_
  all_goals try first | omega
  refine hK2 _ _ _ ?_; clear hK2
  refine AW.seq fun K3 hK3 => ?_
  refine AW.seq fun K4 hK4 => ?_
  -- region 2
  refine AW.regionK 0 (fun _ => none) [1, 3, 9] [1] ?_
  simp only [go_sem, reduceIte, reduceCtorEq, Nat.reduceAdd, Nat.reduceMul, Nat.reduceEqDiff, Nat.reduceLT, Nat.reduceLeDiff, Nat.reduceSub, Nat.reducePow, Nat.reduceBEq, Int.reduceToNat, List.reduceReplicate]
  repeat with_reducible refine cj ?_ ?_
  all_goals try first | omega
  refine hK4 _ _ _ ?_; clear hK4
  -- cond 1
  refine AW.cond rfl (by simp only [go_sem, reduceIte, reduceCtorEq, Nat.reduceAdd, Nat.reduceMul, Nat.reduceEqDiff, Nat.reduceLT, Nat.reduceLeDiff, Nat.reduceSub, Nat.reducePow, Nat.reduceBEq, Int.reduceToNat, List.reduceReplicate]) ?_ ?_
  · intro hb
    try simp only [hB, decide_eq_true_eq, decide_eq_false_iff_not] at hb
    refine AW.seq fun K5 hK5 => ?_
    -- region 3
    refine AW.regionK 0 (fun _ => none) [2] [] ?_
    simp only [go_sem, reduceIte, reduceCtorEq, Nat.reduceAdd, Nat.reduceMul, Nat.reduceEqDiff, Nat.reduceLT, Nat.reduceLeDiff, Nat.reduceSub, Nat.reducePow, Nat.reduceBEq, Int.reduceToNat, List.reduceReplicate]
    repeat with_reducible refine cj ?_ ?_
    all_goals try first | omega
    refine hK5 _ _ _ ?_; clear hK5
    refine AW.ret ?_
    rw [← hQr]
    simp only [go_sem, reduceIte, reduceCtorEq, Nat.reduceAdd, Nat.reduceMul, Nat.reduceEqDiff, Nat.reduceLT, Nat.reduceLeDiff, Nat.reduceSub, Nat.reducePow, Nat.reduceBEq, Int.reduceToNat, List.reduceReplicate]
    have hn : ¬ rs.length ≤ 512 := by omega
    exact Wk.of_eq (by rw [hvg]; simp [hn])
  · intro hb
    try simp only [hB, decide_eq_true_eq, decide_eq_false_iff_not] at hb
    have h512 : rs.length ≤ 512 := by omega
    refine AW.skip ?_
    refine hK3 _ _ _ ?_; clear hK3
    refine AW.seq fun K6 hK6 => ?_
    refine AW.seq fun K7 hK7 => ?_
    -- region 4
    refine AW.regionK 0 (fun _ => none) [1, 3, 4] [1] ?_
    simp only [go_sem, reduceIte, reduceCtorEq, Nat.reduceAdd, Nat.reduceMul, Nat.reduceEqDiff, Nat.reduceLT, Nat.reduceLeDiff, Nat.reduceSub, Nat.reducePow, Nat.reduceBEq, Int.reduceToNat, List.reduceReplicate]
    repeat with_reducible refine cj ?_ ?_
    all_goals try first | omega
    refine hK7 _ _ _ ?_; clear hK7
    refine AW.block ?_
    -- loop 1
    refine AW.loopE (fun mm ee ss kk => ∃ (j g v : Nat), rs.length - j = mm ∧ ee = [(1, .ptr ⟨1, g, none⟩ 0 0), (3, .int .i64 rs.length), (4, .int .i64 (j : Nat))] ∧ ss = [(1, some ⟨g, v, 1, [[.rsl 2 (rs.map rowV)]]⟩)] ∧ (j ≤ rs.length ∧ (rs.take j).all (goodRow rs.length) = true)) ?_ ?_
    · refine ⟨_, 0, ?_, ?_, rfl, ?henv, ?hstore, ?hst⟩
      case henv =>
        repeat' (first | rfl | refine env_cons ?_ ?_ | refine st_cons ?_ ?_ ?_ ?_ | refine int_eq ?_ | refine bool_eq ?_ | refine rsl_eq ?_ | refine osl_eq ?_ | refine sl_eq ?_ ?_ ?_ | refine ptr_eq ?_ ?_ ?_ | refine agg_eq ?_ | refine es_cons ?_ ?_ | refine row_cons ?_ ?_)
        all_goals (first | (simp; done) | omega | (simp; omega))
      case hstore =>
        repeat' (first | rfl | refine env_cons ?_ ?_ | refine st_cons ?_ ?_ ?_ ?_ | refine int_eq ?_ | refine bool_eq ?_ | refine rsl_eq ?_ | refine osl_eq ?_ | refine sl_eq ?_ ?_ ?_ | refine ptr_eq ?_ ?_ ?_ | refine agg_eq ?_ | refine es_cons ?_ ?_ | refine row_cons ?_ ?_)
        all_goals (first | (simp; done) | omega | (simp; omega))
      case hst =>
        exact ⟨Nat.zero_le _, rfl⟩
    rintro mm ee ss kk ⟨j, g, v, rfl, rfl, rfl, hI⟩
    generalize hQl1 : thenQ _ _ = Ql1
    obtain ⟨hj, hall⟩ := hI
    refine AW.seq fun K8 hK8 => ?_
    refine AW.seq fun K9 hK9 => ?_
    -- region 5
    refine AW.regionK 0 (fun _ => none) [1, 3, 4, 12] [1] ?_
    simp only [go_sem, reduceIte, reduceCtorEq, Nat.reduceAdd, Nat.reduceMul, Nat.reduceEqDiff, Nat.reduceLT, Nat.reduceLeDiff, Nat.reduceSub, Nat.reducePow, Nat.reduceBEq, Int.reduceToNat, List.reduceReplicate]
    repeat with_reducible refine cj ?_ ?_
    all_goals try first | omega
    refine hK9 _ _ _ ?_; clear hK9
    -- cond 2
    refine AW.cond rfl (by simp only [go_sem, reduceIte, reduceCtorEq, Nat.reduceAdd, Nat.reduceMul, Nat.reduceEqDiff, Nat.reduceLT, Nat.reduceLeDiff, Nat.reduceSub, Nat.reducePow, Nat.reduceBEq, Int.reduceToNat, List.reduceReplicate]) ?_ ?_
    · intro hb
      try simp only [hB, decide_eq_true_eq, decide_eq_false_iff_not] at hb
      obtain ⟨x, hx2⟩ := getI (l := rs) (j := j) (by omega)
      have hgx := getV (f := rowV) hx2
      have hats := all_take_succ (p := goodRow rs.length) hx2
      have hfx := hf x (List.mem_of_getElem? hx2) (by omega)
      refine AW.skip ?_
      refine hK8 _ _ _ ?_; clear hK8
      refine AW.seq fun K10 hK10 => ?_
      refine AW.block ?_
      refine AW.seq fun K11 hK11 => ?_
      -- region 7
      refine AW.regionK 0 (fun ii => if ii = 6 then some (.reads false (.bool (goodRow rs.length x))) else none) [1, 3, 4, 22] [1] ?_
      simp only [go_sem, reduceIte, reduceCtorEq, Nat.reduceAdd, Nat.reduceMul, Nat.reduceEqDiff, Nat.reduceLT, Nat.reduceLeDiff, Nat.reduceSub, Nat.reducePow, Nat.reduceBEq, Int.reduceToNat, List.reduceReplicate, hgx, rowV]
      repeat with_reducible refine cj ?_ ?_
      all_goals try first | (exact hfx) | omega | exact ent (by kernel_rfl)
      refine hK11 _ _ _ ?_; clear hK11
      -- cond 3
      refine AW.cond rfl (by simp only [go_sem, reduceIte, reduceCtorEq, Nat.reduceAdd, Nat.reduceMul, Nat.reduceEqDiff, Nat.reduceLT, Nat.reduceLeDiff, Nat.reduceSub, Nat.reducePow, Nat.reduceBEq, Int.reduceToNat, List.reduceReplicate]) ?_ ?_
      · intro hb
        try simp only [hB, decide_eq_true_eq, decide_eq_false_iff_not] at hb
        refine AW.seq fun K12 hK12 => ?_
        -- region 8
        refine AW.regionK 0 (fun _ => none) [2] [] ?_
        simp only [go_sem, reduceIte, reduceCtorEq, Nat.reduceAdd, Nat.reduceMul, Nat.reduceEqDiff, Nat.reduceLT, Nat.reduceLeDiff, Nat.reduceSub, Nat.reducePow, Nat.reduceBEq, Int.reduceToNat, List.reduceReplicate]
        repeat with_reducible refine cj ?_ ?_
        all_goals try first | omega
        refine hK12 _ _ _ ?_; clear hK12
        refine AW.ret ?_
        rw [← hQl1]
        rw [← hQr]
        simp only [go_sem, reduceIte, reduceCtorEq, Nat.reduceAdd, Nat.reduceMul, Nat.reduceEqDiff, Nat.reduceLT, Nat.reduceLeDiff, Nat.reduceSub, Nat.reducePow, Nat.reduceBEq, Int.reduceToNat, List.reduceReplicate]
        exact Wk.of_eq (by rw [hvg, all_false_of hx2 hb]; simp)
      · intro hb
        try simp only [hB, decide_eq_true_eq, decide_eq_false_iff_not] at hb
        refine AW.skip ?_
        refine hK10 _ _ _ ?_; clear hK10
        -- region 6
        refine AW.regionK 0 (fun _ => none) [1, 3, 4] [1] ?_
        simp only [go_sem, reduceIte, reduceCtorEq, Nat.reduceAdd, Nat.reduceMul, Nat.reduceEqDiff, Nat.reduceLT, Nat.reduceLeDiff, Nat.reduceSub, Nat.reducePow, Nat.reduceBEq, Int.reduceToNat, List.reduceReplicate]
        repeat with_reducible refine cj ?_ ?_
        all_goals try first | omega
        rw [← hQl1]
        change Exists _
        refine ⟨_, ?hm, j + 1, ?_, ?_, rfl, ?henv, ?hstore, ?hst⟩
        case henv =>
          repeat' (first | rfl | refine env_cons ?_ ?_ | refine st_cons ?_ ?_ ?_ ?_ | refine int_eq ?_ | refine bool_eq ?_ | refine rsl_eq ?_ | refine osl_eq ?_ | refine sl_eq ?_ ?_ ?_ | refine ptr_eq ?_ ?_ ?_ | refine agg_eq ?_ | refine es_cons ?_ ?_ | refine row_cons ?_ ?_)
          all_goals (first | (simp; done) | omega | (simp; omega))
        case hstore =>
          repeat' (first | rfl | refine env_cons ?_ ?_ | refine st_cons ?_ ?_ ?_ ?_ | refine int_eq ?_ | refine bool_eq ?_ | refine rsl_eq ?_ | refine osl_eq ?_ | refine sl_eq ?_ ?_ ?_ | refine ptr_eq ?_ ?_ ?_ | refine agg_eq ?_ | refine es_cons ?_ ?_ | refine row_cons ?_ ?_)
          all_goals (first | (simp; done) | omega | (simp; omega))
        case hst =>
          exact ⟨by omega, by rw [hats, hall, hb]; rfl⟩
        case hm => omega
    · intro hb
      try simp only [hB, decide_eq_true_eq, decide_eq_false_iff_not] at hb
      refine AW.keep [] [] ?_
      try simp only [go_sem, reduceIte, reduceCtorEq, Nat.reduceAdd, Nat.reduceMul, Nat.reduceEqDiff, Nat.reduceLT, Nat.reduceLeDiff, Nat.reduceSub, Nat.reducePow, Nat.reduceBEq, Int.reduceToNat, List.reduceReplicate]
      refine AW.exit ?_
      rw [← hQl1]
      refine hK6 _ _ _ ?_; clear hK6
      refine AW.seq fun K13 hK13 => ?_
      -- region 9
      refine AW.regionK 0 (fun _ => none) [2] [] ?_
      simp only [go_sem, reduceIte, reduceCtorEq, Nat.reduceAdd, Nat.reduceMul, Nat.reduceEqDiff, Nat.reduceLT, Nat.reduceLeDiff, Nat.reduceSub, Nat.reducePow, Nat.reduceBEq, Int.reduceToNat, List.reduceReplicate]
      repeat with_reducible refine cj ?_ ?_
      all_goals try first | omega
      refine hK13 _ _ _ ?_; clear hK13
      refine AW.ret ?_
      rw [← hQr]
      simp only [go_sem, reduceIte, reduceCtorEq, Nat.reduceAdd, Nat.reduceMul, Nat.reduceEqDiff, Nat.reduceLT, Nat.reduceLeDiff, Nat.reduceSub, Nat.reducePow, Nat.reduceBEq, Int.reduceToNat, List.reduceReplicate]
      exact Wk.of_eq (by rw [List.take_of_length_le (by omega)] at hall; rw [hvg, hall]; simp [h512])
end Go.Proofs.R

namespace Go.Proofs.R
open Go.AM Go
set_option maxRecDepth 100000
set_option maxHeartbeats 1000000
theorem rhas_r (n : Nat) (t : List (List Bool)) (hs : Sq n t) (hn : n ≤ 512) (i j : Nat) (hi : i < n) (hj : j < n) : Reads Try.prog 56 false [relB t, .int .i64 i, .int .i64 j] (.bool (atT t i j)) := by
  have hrl := hs.rowLen hi
  have hgt := tabR_get (t := t) (i := i) (by rw [hs.len]; exact hi)
  have htl := tabR_len t
  have hlen := hs.len
  have hat : atT t i j = (rowT t i).getD j false := rfl
  generalize hb : rowT t i = b at *
  have hwl := setW_len' b
  have hd := div64_rng (i := (j : Int)) (n := b.length) (by omega) (by omega)
  have hwn := wordsN_rng (n := (b.length : Int)) (by omega)
  have hgw := words_getD (l := setW b b.length) (i := ((j : Int).tdiv 64).toNat) (by omega)
  have hbt := bit_hasW (setW_ok b) (i := (j : Int)) (by omega)
  rw [hasW_row (by omega), ← hat] at hbt
  unfold relB
  refine Reads.body (rs := [.tmp 6]) Try.func56 rfl Try.ntmps56 rfl (by simp) ?_
  generalize hQr : retQ _ _ _ = Qr
  refine AW.seq fun K1 hK1 => ?_
  -- region 0
  refine AW.regionK 0 (fun _ => none) [1, 2, 3] [3] ?_
  simp only [go_sem, reduceIte, reduceCtorEq, Nat.reduceAdd, Nat.reduceMul, Nat.reduceEqDiff, Nat.reduceLT, Nat.reduceLeDiff, Nat.reduceSub, Nat.reducePow, Nat.reduceBEq, Int.reduceToNat, List.reduceReplicate]
  repeat with_reducible refine cj ?_ ?_
  all_goals try first | omega
  refine hK1 _ _ _ ?_; clear hK1
  refine AW.seq fun K2 hK2 => ?_
  -- region 1
  refine AW.regionK 0 (fun _ => none) [6] [] ?_
  simp only [go_sem, reduceIte, reduceCtorEq, Nat.reduceAdd, Nat.reduceMul, Nat.reduceEqDiff, Nat.reduceLT, Nat.reduceLeDiff, Nat.reduceSub, Nat.reducePow, Nat.reduceBEq, Int.reduceToNat, List.reduceReplicate, hgt, rowB, hgw]
  repeat with_reducible refine cj ?_ ?_
  all_goals try first | omega
  refine hK2 _ _ _ ?_; clear hK2
  refine AW.ret ?_
  rw [← hQr]
  simp only [go_sem, reduceIte, reduceCtorEq, Nat.reduceAdd, Nat.reduceMul, Nat.reduceEqDiff, Nat.reduceLT, Nat.reduceLeDiff, Nat.reduceSub, Nat.reducePow, Nat.reduceBEq, Int.reduceToNat, List.reduceReplicate]
  exact Wk.of_eq (by rw [hbt])
theorem put_u (n : Nat) (t : List (List Bool)) (hs : Sq n t) (hn : n ≤ 512) (i j : Nat) (hi : i < n) (hj : j < n) (g v : Nat) (kc : Option Nat) :
    Upd Try.prog 47 [(0, some ⟨g, v, 2, tabO t⟩)] [.agg [.sl ⟨0, g, none⟩ 0 n kc], .int .i64 i, .int .i64 j] (fun _ => .tup []) (fun k => [(0, some ⟨g, k, 2, tabO (t.set i ((rowT t i).set j true))⟩)]) := by
  have hrl := hs.rowLen hi
  have hlen := hs.len
  have hgt := tabO_get (t := t) (i := i) (by omega)
  have htl := tabO_len t
  have hts := tabO_set t i
  generalize hb : rowT t i = b at *
  have hwl := setW_len' b
  have hd := div64_rng (i := (j : Int)) (n := b.length) (by omega) (by omega)
  have hwn := wordsN_rng (n := (b.length : Int)) (by omega)
  have hgw := words_getD (l := setW b b.length) (i := ((j : Int).tdiv 64).toNat) (by omega)
  have hsb := setBit_setW b (i := j) (by omega)
  unfold setBit at hsb
  have hro : rowO (b.set j true) = [.int .i64 b.length, .osl 1 (words (setW (b.set j true) b.length))] := by simp [rowO]
  have hts2 : (tabO t).set i [.int .i64 b.length, .osl 1 (words (setW (b.set j true) b.length))] = tabO (t.set i (b.set j true)) := by rw [← hro]; exact hts _
  refine Upd.of_body (rs := []) Try.func47 rfl Try.ntmps47 rfl (by simp) ?_
  intro k0 k hk0 hk1
  generalize hQr : retQ _ _ _ = Qr
  refine AW.seq fun K1 hK1 => ?_
  -- region 0
  refine AW.regionK 100 (fun _ => none) [1, 2, 3] [0, 103] ?_
  simp only [go_sem, reduceIte, reduceCtorEq, Nat.reduceAdd, Nat.reduceMul, Nat.reduceEqDiff, Nat.reduceLT, Nat.reduceLeDiff, Nat.reduceSub, Nat.reducePow, Nat.reduceBEq, Int.reduceToNat, List.reduceReplicate]
  repeat with_reducible refine cj ?_ ?_
  all_goals try first | omega
  refine hK1 _ _ _ ?_; clear hK1
  -- region 1
  refine AW.regionD mixed 100 (fun _ => none) [] [0] ?_
  simp only [go_sem, reduceIte, reduceCtorEq, Nat.reduceAdd, Nat.reduceMul, Nat.reduceEqDiff, Nat.reduceLT, Nat.reduceLeDiff, Nat.reduceSub, Nat.reducePow, Nat.reduceBEq, Int.reduceToNat, List.reduceReplicate, hgt, rowO, hgw, hsb, hts2]
  repeat with_reducible refine cj ?_ ?_
  all_goals try first | omega | exact chk (by kernel_rfl)
  rw [← hQr]
  simp only [go_sem, reduceIte, reduceCtorEq, Nat.reduceAdd, Nat.reduceMul, Nat.reduceEqDiff, Nat.reduceLT, Nat.reduceLeDiff, Nat.reduceSub, Nat.reducePow, Nat.reduceBEq, Int.reduceToNat, List.reduceReplicate]
  refine ⟨[(0, 0, false)], ?_⟩
  simp only [go_sem, reduceIte, renC_tabO]
theorem set_getD_self {α : Type} (l : List α) (i : Nat) (d : α) : l.set i (l.getD i d) = l := by
  refine List.ext_getElem? fun k => ?_
  rw [List.getElem?_set]
  split
  · rename_i h; subst h
    split
    · rename_i h2; simp [List.getD_eq_getElem?_getD, h2]
    · rename_i h2; rw [List.getElem?_eq_none (by omega)]
  · rfl
/-- A row takes the members of another one up to a word. -/
def orUpto (A B : List Int) (j : Nat) : List Int := List.zipWith (bOr .u64) (A.take j) (B.take j) ++ A.drop j
theorem orUpto_zero (A B : List Int) : orUpto A B 0 = A := by simp [orUpto]
theorem orUpto_len {A B : List Int} (h : A.length = B.length) (j : Nat) : (orUpto A B j).length = A.length := by simp [orUpto]; omega
theorem orUpto_all {A B : List Int} (h : A.length = B.length) {j : Nat} (hj : A.length ≤ j) : orUpto A B j = List.zipWith (bOr .u64) A B := by
  unfold orUpto; rw [List.take_of_length_le hj, List.take_of_length_le (by omega), List.drop_of_length_le hj]; simp
theorem orUpto_get {A B : List Int} (h : A.length = B.length) {j k : Nat} (hk : j ≤ k) : (orUpto A B j).getD k 0 = A.getD k 0 := by
  unfold orUpto
  by_cases hj : j ≤ A.length
  · have hl : (List.zipWith (bOr .u64) (A.take j) (B.take j)).length = j := by simp; omega
    rw [List.getD_eq_getElem?_getD, List.getElem?_append_right (by omega), hl, List.getElem?_drop, List.getD_eq_getElem?_getD]
    congr 2; omega
  · have hl : (List.zipWith (bOr .u64) (A.take j) (B.take j)).length = A.length := by simp; omega
    rw [List.drop_of_length_le (by omega), List.append_nil, Go.AM.getD_out (by omega), Go.AM.getD_out (by omega)]
theorem orUpto_succ {A B : List Int} (h : A.length = B.length) {j : Nat} (hj : j < A.length) : orUpto A B (j + 1) = (orUpto A B j).set j (bOr .u64 (A.getD j 0) (B.getD j 0)) := by
  unfold orUpto
  have hl : (List.zipWith (bOr .u64) (A.take j) (B.take j)).length = j := by simp; omega
  rw [List.set_append_right _ _ (by omega), hl, Nat.sub_self, List.drop_eq_getElem_cons hj, List.set_cons_zero, List.take_succ_eq_append_getElem hj, List.take_succ_eq_append_getElem (by omega), List.zipWith_append (by simp; omega)]
  simp [List.getD_eq_getElem?_getD, hj, show j < B.length by omega]
theorem merge_p (n : Nat) (t : List (List Bool)) (hs : Sq n t) (hn : n ≤ 512) (i : Nat) (hi : i < n) (b : List Bool) (hb : b.length = n) (g v : Nat) (kc : Option Nat) :
    Upd Try.prog 63 [(0, some ⟨g, v, 2, tabO t⟩)] [.agg [.int .i64 n, .sl ⟨0, g, some (i, 1, v)⟩ 0 (wordsN n).toNat kc], .agg (rowB b)] (fun _ => .tup []) (fun k => [(0, some ⟨g, k, 2, tabO (t.set i (List.zipWith (· || ·) (rowT t i) b))⟩)]) := by
  have hrl := hs.rowLen hi
  have hlen := hs.len
  have hts := tabO_set t i
  have htl := tabO_len t
  have hz := zipW_setW bitOp_or (a := rowT t i) (b := b) (by omega)
  generalize ha : rowT t i = a at *
  have hla := setW_len' a
  have hlb := setW_len' b
  have hwn := wordsN_rng (n := (n : Int)) (by omega)
  have hro : ∀ W, rowO (List.zipWith (· || ·) a b) = [.int .i64 n, .osl 1 (words W)] ↔ words (setW (List.zipWith (· || ·) a b) a.length) = words W := fun W => by
    have e : (List.zipWith (· || ·) a b).length = a.length := by simp; omega
    unfold rowO; rw [e, hrl]; simp
  rw [show (a.length : Int) = n by omega] at hla
  rw [show (b.length : Int) = n by omega] at hlb
  generalize hA : setW a a.length = A at *
  generalize hB : setW b b.length = B at *
  have hAB : A.length = B.length := by omega
  have hg0 : (tabO t).getD i [] = [.int .i64 n, .osl 1 (words A)] := by rw [tabO_get (by omega), ha, rowO, hA, hrl]
  have hset : ∀ W, ((tabO t).set i [.int .i64 n, .osl 1 (words W)]).getD i [] = [.int .i64 n, .osl 1 (words W)] := fun W => Go.AM.getD_set_eq (by omega) _ _
  have hfix : (tabO t).set i [.int .i64 n, .osl 1 (words A)] = tabO t := by
    rw [← hg0]; exact set_getD_self _ _ _
  unfold rowB
  rw [hB]
  refine Upd.of_body (rs := []) Try.func63 rfl Try.ntmps63 rfl (by simp) ?_
  intro k0 k hk0 hk1
  generalize hQr : retQ _ _ _ = Qr
  refine AW.seq fun K1 hK1 => ?_
  -- region 0
  refine AW.regionK 100 (fun _ => none) [2, 3] [0, 102, 103] ?_
  simp only [go_sem, reduceIte, reduceCtorEq, Nat.reduceAdd, Nat.reduceMul, Nat.reduceEqDiff, Nat.reduceLT, Nat.reduceLeDiff, Nat.reduceSub, Nat.reducePow, Nat.reduceBEq, Int.reduceToNat, List.reduceReplicate]
  repeat with_reducible refine cj ?_ ?_
  all_goals try first | omega
  refine hK1 _ _ _ ?_; clear hK1
  refine AW.seq fun K2 hK2 => ?_
  -- region 1
  refine AW.regionK 100 (fun _ => none) [2, 7, 8, 9] [0, 102] ?_
  simp only [go_sem, reduceIte, reduceCtorEq, Nat.reduceAdd, Nat.reduceMul, Nat.reduceEqDiff, Nat.reduceLT, Nat.reduceLeDiff, Nat.reduceSub, Nat.reducePow, Nat.reduceBEq, Int.reduceToNat, List.reduceReplicate]
  repeat with_reducible refine cj ?_ ?_
  all_goals try first | omega
  refine hK2 _ _ _ ?_; clear hK2
  refine AW.block ?_
  -- loop 1
  refine AW.loopE (fun mm ee ss kk => ∃ (j g2 v2 : Nat), B.length - j = mm ∧ ee = [(2, .ptr ⟨102, g2, none⟩ 0 0), (7, .rsl 1 (words B)), (8, .int .i64 B.length), (9, .int .i64 (j : Nat))] ∧ ss = [(0, some ⟨g, v, 2, (tabO t).set i [.int .i64 n, .osl 1 (words (orUpto A B j))]⟩), (102, some ⟨g2, v2, 2, [[.int .i64 n, .sl ⟨0, g, some (i, 1, v)⟩ 0 (wordsN n).toNat kc]]⟩)] ∧ (j ≤ B.length)) ?_ ?_
  · refine ⟨_, 0, ?_, ?_, rfl, ?henv, ?hstore, ?hst⟩
    case henv =>
      repeat' (first | rfl | refine env_cons ?_ ?_ | refine st_cons ?_ ?_ ?_ ?_ | refine int_eq ?_ | refine bool_eq ?_ | refine rsl_eq ?_ | refine osl_eq ?_ | refine sl_eq ?_ ?_ ?_ | refine ptr_eq ?_ ?_ ?_ | refine agg_eq ?_ | refine es_cons ?_ ?_ | refine row_cons ?_ ?_)
      all_goals (first | (simp; done) | omega | (simp; omega))
    case hstore =>
      repeat' (first | rfl | refine env_cons ?_ ?_ | refine st_cons ?_ ?_ ?_ ?_ | refine int_eq ?_ | refine bool_eq ?_ | refine rsl_eq ?_ | refine osl_eq ?_ | refine sl_eq ?_ ?_ ?_ | refine ptr_eq ?_ ?_ ?_ | refine agg_eq ?_ | refine es_cons ?_ ?_ | refine row_cons ?_ ?_)
      all_goals (first | (rw [orUpto_zero, hfix]; done) | (simp; done))
    case hst =>
      first | trivial | omega | (simp; done) | (simp; omega)
  rintro mm ee ss kk ⟨j, g2, v2, rfl, rfl, rfl, hI⟩
  generalize hQl1 : thenQ _ _ = Ql1
  refine AW.seq fun K3 hK3 => ?_
  -- region 2
  refine AW.regionK 100 (fun _ => none) [2, 7, 8, 9, 10] [0, 102] ?_
  simp only [go_sem, reduceIte, reduceCtorEq, Nat.reduceAdd, Nat.reduceMul, Nat.reduceEqDiff, Nat.reduceLT, Nat.reduceLeDiff, Nat.reduceSub, Nat.reducePow, Nat.reduceBEq, Int.reduceToNat, List.reduceReplicate]
  repeat with_reducible refine cj ?_ ?_
  all_goals try first | omega
  refine hK3 _ _ _ ?_; clear hK3
  refine AW.seq fun K4 hK4 => ?_
  -- cond 1
  refine AW.cond rfl (by simp only [go_sem, reduceIte, reduceCtorEq, Nat.reduceAdd, Nat.reduceMul, Nat.reduceEqDiff, Nat.reduceLT, Nat.reduceLeDiff, Nat.reduceSub, Nat.reducePow, Nat.reduceBEq, Int.reduceToNat, List.reduceReplicate]) ?_ ?_
  · intro hb
    try simp only [hB, decide_eq_true_eq, decide_eq_false_iff_not] at hb
    have hgb := words_getD (l := B) (i := j) (by omega)
    have hol := orUpto_len hAB j
    have hgo := words_getD (l := orUpto A B j) (i := j) (by omega)
    rw [orUpto_get hAB (Nat.le_refl _)] at hgo
    have hos := orUpto_succ hAB (j := j) (by omega)
    refine AW.skip ?_
    refine hK4 _ _ _ ?_; clear hK4
    refine AW.seq fun K5 hK5 => ?_
    refine AW.block ?_
    refine AW.seq fun K6 hK6 => ?_
    -- region 3
    refine AW.regionK 100 (fun _ => none) [2, 4, 5, 7, 8, 9] [0, 102] ?_
    simp only [go_sem, reduceIte, reduceCtorEq, Nat.reduceAdd, Nat.reduceMul, Nat.reduceEqDiff, Nat.reduceLT, Nat.reduceLeDiff, Nat.reduceSub, Nat.reducePow, Nat.reduceBEq, Int.reduceToNat, List.reduceReplicate, hgb]
    repeat with_reducible refine cj ?_ ?_
    all_goals try first | omega
    refine hK6 _ _ _ ?_; clear hK6
    -- region 4
    refine AW.regionK 100 (fun _ => none) [2, 7, 8, 9] [0, 102] ?_
    simp only [go_sem, reduceIte, reduceCtorEq, Nat.reduceAdd, Nat.reduceMul, Nat.reduceEqDiff, Nat.reduceLT, Nat.reduceLeDiff, Nat.reduceSub, Nat.reducePow, Nat.reduceBEq, Int.reduceToNat, List.reduceReplicate, hset, hgo, List.set_set]
    repeat with_reducible refine cj ?_ ?_
    all_goals try first | omega
    refine hK5 _ _ _ ?_; clear hK5
    -- region 5
    refine AW.regionK 100 (fun _ => none) [2, 7, 8, 9] [0, 102] ?_
    simp only [go_sem, reduceIte, reduceCtorEq, Nat.reduceAdd, Nat.reduceMul, Nat.reduceEqDiff, Nat.reduceLT, Nat.reduceLeDiff, Nat.reduceSub, Nat.reducePow, Nat.reduceBEq, Int.reduceToNat, List.reduceReplicate]
    repeat with_reducible refine cj ?_ ?_
    all_goals try first | omega
    rw [← hQl1]
    change Exists _
    refine ⟨_, ?hm, j + 1, ?_, ?_, rfl, ?henv, ?hstore, ?hst⟩
    case henv =>
      repeat' (first | rfl | refine env_cons ?_ ?_ | refine st_cons ?_ ?_ ?_ ?_ | refine int_eq ?_ | refine bool_eq ?_ | refine rsl_eq ?_ | refine osl_eq ?_ | refine sl_eq ?_ ?_ ?_ | refine ptr_eq ?_ ?_ ?_ | refine agg_eq ?_ | refine es_cons ?_ ?_ | refine row_cons ?_ ?_)
      all_goals (first | (simp; done) | omega | (simp; omega))
    case hstore =>
      repeat' (first | rfl | refine env_cons ?_ ?_ | refine st_cons ?_ ?_ ?_ ?_ | refine int_eq ?_ | refine bool_eq ?_ | refine rsl_eq ?_ | refine osl_eq ?_ | refine sl_eq ?_ ?_ ?_ | refine ptr_eq ?_ ?_ ?_ | refine agg_eq ?_ | refine es_cons ?_ ?_ | refine row_cons ?_ ?_)
      all_goals (rw [hos])
    case hst =>
      first | trivial | omega | (simp; done) | (simp; omega)
    case hm => omega
  · intro hb
    try simp only [hB, decide_eq_true_eq, decide_eq_false_iff_not] at hb
    have hj : j = B.length := by omega
    subst hj
    have hoa := orUpto_all hAB (j := B.length) (by omega)
    rw [hoa]
    have hfin : (tabO t).set i [.int .i64 n, .osl 1 (words (List.zipWith (bOr .u64) A B))] = tabO (t.set i (List.zipWith (· || ·) a b)) := by
      rw [← hts, (hro (List.zipWith (bOr .u64) A B)).2 (by rw [hz])]
    rw [hfin]
    refine AW.keep [] [0] ?_
    try simp only [go_sem, reduceIte, reduceCtorEq, Nat.reduceAdd, Nat.reduceMul, Nat.reduceEqDiff, Nat.reduceLT, Nat.reduceLeDiff, Nat.reduceSub, Nat.reducePow, Nat.reduceBEq, Int.reduceToNat, List.reduceReplicate]
    refine AW.exit ?_
    rw [← hQl1]
    rw [← hQr]
    simp only [go_sem, reduceIte, reduceCtorEq, Nat.reduceAdd, Nat.reduceMul, Nat.reduceEqDiff, Nat.reduceLT, Nat.reduceLeDiff, Nat.reduceSub, Nat.reducePow, Nat.reduceBEq, Int.reduceToNat, List.reduceReplicate]
    refine ⟨[(0, 0, false)], ?_⟩
    simp only [go_sem, reduceIte, renC_tabO]
theorem merge_s (n : Nat) (t : List (List Bool)) (hs : Sq n t) (hn : n ≤ 512) (i q : Nat) (hi : i < n) (hq : q < n) (g v : Nat) (kc kd : Option Nat) :
    Upd Try.prog 63 [(0, some ⟨g, v, 2, tabO t⟩)] [.agg [.int .i64 n, .sl ⟨0, g, some (i, 1, v)⟩ 0 (wordsN n).toNat kc], .agg [.int .i64 n, .sl ⟨0, g, some (q, 1, v)⟩ 0 (wordsN n).toNat kd]] (fun _ => .tup []) (fun k => [(0, some ⟨g, k, 2, tabO (t.set i (List.zipWith (· || ·) (rowT t i) (rowT t q)))⟩)]) := by
  have hrl := hs.rowLen hi
  have hrq := hs.rowLen hq
  have hlen := hs.len
  have hts := tabO_set t i
  have htl := tabO_len t
  have hz := zipW_setW bitOp_or (a := rowT t i) (b := rowT t q) (by omega)
  generalize ha : rowT t i = a at *
  generalize hb' : rowT t q = b at *
  have hla := setW_len' a
  have hlb := setW_len' b
  have hwn := wordsN_rng (n := (n : Int)) (by omega)
  have hro : ∀ W, rowO (List.zipWith (· || ·) a b) = [.int .i64 n, .osl 1 (words W)] ↔ words (setW (List.zipWith (· || ·) a b) a.length) = words W := fun W => by
    have e : (List.zipWith (· || ·) a b).length = a.length := by simp; omega
    unfold rowO; rw [e, hrl]; simp
  have hiq : i = q → a = b := fun e => by rw [← ha, ← hb', e]
  rw [show (a.length : Int) = n by omega] at hla
  rw [show (b.length : Int) = n by omega] at hlb
  have hAB' : a = b → setW a a.length = setW b b.length := fun e => by rw [e]
  have hgq0 : (tabO t).getD q [] = [.int .i64 n, .osl 1 (words (setW b b.length))] := by rw [tabO_get (by omega), hb', rowO, hrq]
  have hg0 : (tabO t).getD i [] = [.int .i64 n, .osl 1 (words (setW a a.length))] := by rw [tabO_get (by omega), ha, rowO, hrl]
  generalize hA : setW a a.length = A at *
  generalize hB : setW b b.length = B at *
  have hAB : A.length = B.length := by omega
  have hset : ∀ W, ((tabO t).set i [.int .i64 n, .osl 1 (words W)]).getD i [] = [.int .i64 n, .osl 1 (words W)] := fun W => Go.AM.getD_set_eq (by omega) _ _
  have hfix : (tabO t).set i [.int .i64 n, .osl 1 (words A)] = tabO t := by
    rw [← hg0]; exact set_getD_self _ _ _
  have hC : ∀ j, j < B.length → ∃ C : List Int, ((tabO t).set i [.int .i64 n, .osl 1 (words (orUpto A B j))]).getD q [] = [.int .i64 n, .osl 1 (words C)] ∧ C.length = B.length ∧ C.getD j 0 = B.getD j 0 := fun j hj => by
    by_cases e : i = q
    · refine ⟨orUpto A B j, by rw [← e]; exact hset _, by rw [orUpto_len hAB]; exact hAB, ?_⟩
      rw [orUpto_get hAB (Nat.le_refl _), hAB' (hiq e)]
    · exact ⟨B, by rw [Go.AM.getD_set_ne e, hgq0], rfl, rfl⟩
  have hgq1 : ((tabO t).set i [.int .i64 n, .osl 1 (words (orUpto A B 0))]).getD q [] = [.int .i64 n, .osl 1 (words B)] := by rw [orUpto_zero, hfix, hgq0]
  refine Upd.of_body (rs := []) Try.func63 rfl Try.ntmps63 rfl (by simp) ?_
  intro k0 k hk0 hk1
  generalize hQr : retQ _ _ _ = Qr
  refine AW.seq fun K1 hK1 => ?_
  -- region 0
  refine AW.regionK 100 (fun _ => none) [2, 3] [0, 102, 103] ?_
  simp only [go_sem, reduceIte, reduceCtorEq, Nat.reduceAdd, Nat.reduceMul, Nat.reduceEqDiff, Nat.reduceLT, Nat.reduceLeDiff, Nat.reduceSub, Nat.reducePow, Nat.reduceBEq, Int.reduceToNat, List.reduceReplicate]
  repeat with_reducible refine cj ?_ ?_
  all_goals try first | omega
  refine hK1 _ _ _ ?_; clear hK1
  refine AW.seq fun K2 hK2 => ?_
  -- region 1
  refine AW.regionK 100 (fun _ => none) [2, 7, 8, 9] [0, 102] ?_
  simp only [go_sem, reduceIte, reduceCtorEq, Nat.reduceAdd, Nat.reduceMul, Nat.reduceEqDiff, Nat.reduceLT, Nat.reduceLeDiff, Nat.reduceSub, Nat.reducePow, Nat.reduceBEq, Int.reduceToNat, List.reduceReplicate, hgq0]
  repeat with_reducible refine cj ?_ ?_
  all_goals try first | omega
  refine hK2 _ _ _ ?_; clear hK2
  refine AW.block ?_
  -- loop 1
  refine AW.loopE (fun mm ee ss kk => ∃ (j g2 v2 : Nat), B.length - j = mm ∧ ee = [(2, .ptr ⟨102, g2, none⟩ 0 0), (7, .sl ⟨0, g, some (q, 1, v)⟩ 0 (wordsN n).toNat kd), (8, .int .i64 (wordsN n).toNat), (9, .int .i64 (j : Nat))] ∧ ss = [(0, some ⟨g, v, 2, (tabO t).set i [.int .i64 n, .osl 1 (words (orUpto A B j))]⟩), (102, some ⟨g2, v2, 2, [[.int .i64 n, .sl ⟨0, g, some (i, 1, v)⟩ 0 (wordsN n).toNat kc]]⟩)] ∧ (j ≤ B.length)) ?_ ?_
  · refine ⟨_, 0, ?_, ?_, rfl, ?henv, ?hstore, ?hst⟩
    case henv =>
      repeat' (first | rfl | refine env_cons ?_ ?_ | refine st_cons ?_ ?_ ?_ ?_ | refine int_eq ?_ | refine bool_eq ?_ | refine rsl_eq ?_ | refine osl_eq ?_ | refine sl_eq ?_ ?_ ?_ | refine ptr_eq ?_ ?_ ?_ | refine agg_eq ?_ | refine es_cons ?_ ?_ | refine row_cons ?_ ?_)
      all_goals (first | (simp; done) | omega | (simp; omega))
    case hstore =>
      repeat' (first | rfl | refine env_cons ?_ ?_ | refine st_cons ?_ ?_ ?_ ?_ | refine int_eq ?_ | refine bool_eq ?_ | refine rsl_eq ?_ | refine osl_eq ?_ | refine sl_eq ?_ ?_ ?_ | refine ptr_eq ?_ ?_ ?_ | refine agg_eq ?_ | refine es_cons ?_ ?_ | refine row_cons ?_ ?_)
      all_goals (first | (rw [orUpto_zero, hfix]; done) | (simp; done))
    case hst =>
      first | trivial | omega | (simp; done) | (simp; omega)
  rintro mm ee ss kk ⟨j, g2, v2, rfl, rfl, rfl, hI⟩
  generalize hQl1 : thenQ _ _ = Ql1
  refine AW.seq fun K3 hK3 => ?_
  -- region 2
  refine AW.regionK 100 (fun _ => none) [2, 7, 8, 9, 10] [0, 102] ?_
  simp only [go_sem, reduceIte, reduceCtorEq, Nat.reduceAdd, Nat.reduceMul, Nat.reduceEqDiff, Nat.reduceLT, Nat.reduceLeDiff, Nat.reduceSub, Nat.reducePow, Nat.reduceBEq, Int.reduceToNat, List.reduceReplicate]
  repeat with_reducible refine cj ?_ ?_
  all_goals try first | omega
  refine hK3 _ _ _ ?_; clear hK3
  refine AW.seq fun K4 hK4 => ?_
  -- cond 1
  refine AW.cond rfl (by simp only [go_sem, reduceIte, reduceCtorEq, Nat.reduceAdd, Nat.reduceMul, Nat.reduceEqDiff, Nat.reduceLT, Nat.reduceLeDiff, Nat.reduceSub, Nat.reducePow, Nat.reduceBEq, Int.reduceToNat, List.reduceReplicate]) ?_ ?_
  · intro hb
    try simp only [hB, decide_eq_true_eq, decide_eq_false_iff_not] at hb
    obtain ⟨C, hC1, hC2, hC3⟩ := hC j (by omega)
    have hgb := words_getD (l := C) (i := j) (by omega)
    rw [hC3] at hgb
    have hol := orUpto_len hAB j
    have hgo := words_getD (l := orUpto A B j) (i := j) (by omega)
    rw [orUpto_get hAB (Nat.le_refl _)] at hgo
    have hos := orUpto_succ hAB (j := j) (by omega)
    refine AW.skip ?_
    refine hK4 _ _ _ ?_; clear hK4
    refine AW.seq fun K5 hK5 => ?_
    refine AW.block ?_
    refine AW.seq fun K6 hK6 => ?_
    -- region 3
    refine AW.regionK 100 (fun _ => none) [2, 4, 5, 7, 8, 9] [0, 102] ?_
    simp only [go_sem, reduceIte, reduceCtorEq, Nat.reduceAdd, Nat.reduceMul, Nat.reduceEqDiff, Nat.reduceLT, Nat.reduceLeDiff, Nat.reduceSub, Nat.reducePow, Nat.reduceBEq, Int.reduceToNat, List.reduceReplicate, hC1, hgb]
    repeat with_reducible refine cj ?_ ?_
    all_goals try first | omega
    refine hK6 _ _ _ ?_; clear hK6
    -- region 4
    refine AW.regionK 100 (fun _ => none) [2, 7, 8, 9] [0, 102] ?_
    simp only [go_sem, reduceIte, reduceCtorEq, Nat.reduceAdd, Nat.reduceMul, Nat.reduceEqDiff, Nat.reduceLT, Nat.reduceLeDiff, Nat.reduceSub, Nat.reducePow, Nat.reduceBEq, Int.reduceToNat, List.reduceReplicate, hset, hgo, List.set_set]
    repeat with_reducible refine cj ?_ ?_
    all_goals try first | omega
    refine hK5 _ _ _ ?_; clear hK5
    -- region 5
    refine AW.regionK 100 (fun _ => none) [2, 7, 8, 9] [0, 102] ?_
    simp only [go_sem, reduceIte, reduceCtorEq, Nat.reduceAdd, Nat.reduceMul, Nat.reduceEqDiff, Nat.reduceLT, Nat.reduceLeDiff, Nat.reduceSub, Nat.reducePow, Nat.reduceBEq, Int.reduceToNat, List.reduceReplicate]
    repeat with_reducible refine cj ?_ ?_
    all_goals try first | omega
    rw [← hQl1]
    change Exists _
    refine ⟨_, ?hm, j + 1, ?_, ?_, rfl, ?henv, ?hstore, ?hst⟩
    case henv =>
      repeat' (first | rfl | refine env_cons ?_ ?_ | refine st_cons ?_ ?_ ?_ ?_ | refine int_eq ?_ | refine bool_eq ?_ | refine rsl_eq ?_ | refine osl_eq ?_ | refine sl_eq ?_ ?_ ?_ | refine ptr_eq ?_ ?_ ?_ | refine agg_eq ?_ | refine es_cons ?_ ?_ | refine row_cons ?_ ?_)
      all_goals (first | (simp; done) | omega | (simp; omega))
    case hstore =>
      repeat' (first | rfl | refine env_cons ?_ ?_ | refine st_cons ?_ ?_ ?_ ?_ | refine int_eq ?_ | refine bool_eq ?_ | refine rsl_eq ?_ | refine osl_eq ?_ | refine sl_eq ?_ ?_ ?_ | refine ptr_eq ?_ ?_ ?_ | refine agg_eq ?_ | refine es_cons ?_ ?_ | refine row_cons ?_ ?_)
      all_goals (rw [hos])
    case hst =>
      first | trivial | omega | (simp; done) | (simp; omega)
    case hm => omega
  · intro hb
    try simp only [hB, decide_eq_true_eq, decide_eq_false_iff_not] at hb
    have hj : j = B.length := by omega
    subst hj
    have hoa := orUpto_all hAB (j := B.length) (by omega)
    rw [hoa]
    have hfin : (tabO t).set i [.int .i64 n, .osl 1 (words (List.zipWith (bOr .u64) A B))] = tabO (t.set i (List.zipWith (· || ·) a b)) := by
      rw [← hts, (hro (List.zipWith (bOr .u64) A B)).2 (by rw [hz])]
    rw [hfin]
    refine AW.keep [] [0] ?_
    try simp only [go_sem, reduceIte, reduceCtorEq, Nat.reduceAdd, Nat.reduceMul, Nat.reduceEqDiff, Nat.reduceLT, Nat.reduceLeDiff, Nat.reduceSub, Nat.reducePow, Nat.reduceBEq, Int.reduceToNat, List.reduceReplicate]
    refine AW.exit ?_
    rw [← hQl1]
    rw [← hQr]
    simp only [go_sem, reduceIte, reduceCtorEq, Nat.reduceAdd, Nat.reduceMul, Nat.reduceEqDiff, Nat.reduceLT, Nat.reduceLeDiff, Nat.reduceSub, Nat.reducePow, Nat.reduceBEq, Int.reduceToNat, List.reduceReplicate]
    refine ⟨[(0, 0, false)], ?_⟩
    simp only [go_sem, reduceIte, renC_tabO]
theorem rep_succ (n j : Nat) (b : List Bool) : List.replicate (j + 1) b = List.replicate j b ++ [b] := List.replicate_succ'
theorem empty_u (n : Nat) (hn : n ≤ 512) : Upd Try.prog 46 [] [.int .i64 n] (fun k => .agg [.sl ⟨0, k, none⟩ 0 n none]) (fun k => [(0, some ⟨k, k, 2, tabO (List.replicate n (List.replicate n false))⟩)]) := by
  have hwn := wordsN_rng (n := (n : Int)) (by omega)
  have hrw := rwords_r n (by omega) (by omega)
  have hro : rowO (List.replicate n false) = [.int .i64 n, .osl 1 (words (List.replicate (wordsN n).toNat 0))] := by unfold rowO; simp only [List.length_replicate]; rw [setW_zero]
  have hwz : words (List.replicate (wordsN n).toNat 0) = List.replicate (wordsN n).toNat [.int .u64 0] := by simp [words]
  refine Upd.of_body (rs := [.cell 2 24]) Try.func46 rfl Try.ntmps46 rfl (by simp) ?_
  intro k0 k hk0 hk1
  generalize hQr : retQ _ _ _ = Qr
  refine AW.seq fun K1 hK1 => ?_
  -- region 0
  refine AW.regionK 100 (fun _ => none) [0, 2] [102] ?_
  simp only [go_sem, reduceIte, reduceCtorEq, Nat.reduceAdd, Nat.reduceMul, Nat.reduceEqDiff, Nat.reduceLT, Nat.reduceLeDiff, Nat.reduceSub, Nat.reducePow, Nat.reduceBEq, Int.reduceToNat, List.reduceReplicate]
  repeat with_reducible refine cj ?_ ?_
  all_goals try first | omega
  refine hK1 _ _ _ ?_; clear hK1
  refine AW.seq fun K2 hK2 => ?_
  -- region 1
  refine AW.regionK 100 (fun _ => none) [0, 2, 3] [102, 103] ?_
  simp only [go_sem, reduceIte, reduceCtorEq, Nat.reduceAdd, Nat.reduceMul, Nat.reduceEqDiff, Nat.reduceLT, Nat.reduceLeDiff, Nat.reduceSub, Nat.reducePow, Nat.reduceBEq, Int.reduceToNat, List.reduceReplicate]
  repeat with_reducible refine cj ?_ ?_
  all_goals try first | omega
  refine hK2 _ _ _ ?_; clear hK2
  refine AW.seq fun K3 hK3 => ?_
  refine AW.seq fun K4 hK4 => ?_
  -- region 2
  refine AW.regionK 100 (fun _ => none) [0, 2, 3, 4, 5] [102, 103] ?_
  simp only [go_sem, reduceIte, reduceCtorEq, Nat.reduceAdd, Nat.reduceMul, Nat.reduceEqDiff, Nat.reduceLT, Nat.reduceLeDiff, Nat.reduceSub, Nat.reducePow, Nat.reduceBEq, Int.reduceToNat, List.reduceReplicate]
  repeat with_reducible refine cj ?_ ?_
  all_goals try first | omega
  refine hK4 _ _ _ ?_; clear hK4
  refine AW.block ?_
  refine AW.nilCellK 103 0 0 200 2 ?_
  simp only [go_sem, reduceIte, Nat.reduceEqDiff]
  repeat refine cj ?_ ?_
  rotate_left
  · decide
  · decide
  · decide
  refine AW.keep [0, 2, 3, 4, 5] [102, 103, 200] ?_
  simp only [go_sem, reduceIte, Nat.reduceEqDiff]
  -- loop 1
  refine AW.loopE (fun mm ee ss kk => ∃ (j g2 v2 g3 v3 g v : Nat), n - j = mm ∧ ee = [(0, .int .i64 n), (2, .ptr ⟨102, g2, none⟩ 0 0), (3, .ptr ⟨103, g3, none⟩ 0 0), (4, .int .i64 n), (5, .int .i64 (j : Nat))] ∧ ss = [(102, some ⟨g2, v2, 1, [[.nilsl]]⟩), (103, some ⟨g3, v3, 1, [[.sl ⟨200, g, none⟩ 0 j none]]⟩), (200, some ⟨g, v, 2, tabO (List.replicate j (List.replicate n false))⟩)] ∧ (j ≤ n)) ?_ ?_
  · refine ⟨_, 0, ?_, ?_, ?_, ?_, ?_, ?_, rfl, ?henv, ?hstore, ?hst⟩
    case henv =>
      repeat' (first | rfl | refine env_cons ?_ ?_ | refine st_cons ?_ ?_ ?_ ?_ | refine int_eq ?_ | refine bool_eq ?_ | refine rsl_eq ?_ | refine osl_eq ?_ | refine sl_eq ?_ ?_ ?_ | refine ptr_eq ?_ ?_ ?_ | refine agg_eq ?_ | refine es_cons ?_ ?_ | refine row_cons ?_ ?_)
      all_goals (first | (simp; done) | omega | (simp; omega))
    case hstore =>
      repeat' (first | rfl | refine env_cons ?_ ?_ | refine st_cons ?_ ?_ ?_ ?_ | refine int_eq ?_ | refine bool_eq ?_ | refine rsl_eq ?_ | refine osl_eq ?_ | refine sl_eq ?_ ?_ ?_ | refine ptr_eq ?_ ?_ ?_ | refine agg_eq ?_ | refine es_cons ?_ ?_ | refine row_cons ?_ ?_)
      all_goals (first | (simp; done) | omega | (simp; omega))
    case hst =>
      first | trivial | omega | (simp; done) | (simp; omega)
  rintro mm ee ss kk ⟨j, g2, v2, g3, v3, g, v, rfl, rfl, rfl, hI⟩
  generalize hQl1 : thenQ _ _ = Ql1
  refine AW.seq fun K5 hK5 => ?_
  -- region 3
  refine AW.regionK 100 (fun _ => none) [0, 2, 3, 4, 5, 6] [102, 103, 200] ?_
  simp only [go_sem, reduceIte, reduceCtorEq, Nat.reduceAdd, Nat.reduceMul, Nat.reduceEqDiff, Nat.reduceLT, Nat.reduceLeDiff, Nat.reduceSub, Nat.reducePow, Nat.reduceBEq, Int.reduceToNat, List.reduceReplicate]
  repeat with_reducible refine cj ?_ ?_
  all_goals try first | omega
  refine hK5 _ _ _ ?_; clear hK5
  refine AW.seq fun K6 hK6 => ?_
  -- cond 1
  refine AW.cond rfl (by simp only [go_sem, reduceIte, reduceCtorEq, Nat.reduceAdd, Nat.reduceMul, Nat.reduceEqDiff, Nat.reduceLT, Nat.reduceLeDiff, Nat.reduceSub, Nat.reducePow, Nat.reduceBEq, Int.reduceToNat, List.reduceReplicate]) ?_ ?_
  · intro hb
    try simp only [hB, decide_eq_true_eq, decide_eq_false_iff_not] at hb
    have htl : (List.replicate j (List.replicate n false)).length = j := by simp
    have htk : (tabO (List.replicate j (List.replicate n false))).take j = tabO (List.replicate j (List.replicate n false)) := List.take_of_length_le (by rw [tabO_len, htl]; exact Nat.le_refl _)
    have hgl : ∀ x : List AV, (tabO (List.replicate j (List.replicate n false)) ++ [x]).getD j [] = x := fun x => by rw [List.getD_eq_getElem?_getD, List.getElem?_append_right (by rw [tabO_len, htl]; exact Nat.le_refl _), tabO_len, htl]; simp
    have hsl : ∀ x y : List AV, (tabO (List.replicate j (List.replicate n false)) ++ [x]).set j y = tabO (List.replicate j (List.replicate n false)) ++ [y] := fun x y => by rw [List.set_append_right _ _ (by rw [tabO_len, htl]; exact Nat.le_refl _), tabO_len, htl]; simp
    have hll : ∀ x : List AV, (tabO (List.replicate j (List.replicate n false)) ++ [x]).length = j + 1 := fun x => by simp [tabO_len]
    have hrs := rep_succ n j (List.replicate n false)
    have hta := tabO_app (List.replicate j (List.replicate n false)) (List.replicate n false)
    rw [hro, ← hrs] at hta
    refine AW.skip ?_
    refine hK6 _ _ _ ?_; clear hK6
    refine AW.seq fun K7 hK7 => ?_
    refine AW.block ?_
    -- region 4
    refine AW.regionD mixed 100 (fun ii => if ii = 4 then some (.reads false (.int .i64 (wordsN n))) else none) [0, 2, 3, 4, 5] [102, 103, 112, 200] ?_
    simp only [go_sem, reduceIte, reduceCtorEq, Nat.reduceAdd, Nat.reduceMul, Nat.reduceEqDiff, Nat.reduceLT, Nat.reduceLeDiff, Nat.reduceSub, Nat.reducePow, Nat.reduceBEq, Int.reduceToNat, List.reduceReplicate, htk, tabO_len, htl]
    repeat with_reducible refine cj ?_ ?_
    all_goals try first | (exact hrw) | omega | exact chk (by kernel_rfl) | exact ent (by kernel_rfl) | (simp [scP, scalar]; done) | exact scP_words _ | exact scP_ints _ | exact scP_bools _
    refine hK7 _ _ _ ?_; clear hK7
    refine AW.adoptK 200 j 1 112 ?_
    simp only [go_sem, reduceIte, Nat.reduceEqDiff, hgl, hsl, hll]
    refine ⟨by decide, ?_, ?_⟩
    · rw [← hwz]; exact noOsl_words _
    refine AW.keep [0, 2, 3, 4, 5] [102, 103, 200] ?_
    simp only [go_sem, reduceIte, Nat.reduceEqDiff]
    rw [← hwz, hta]
    -- region 5
    refine AW.regionK 100 (fun _ => none) [0, 2, 3, 4, 5] [102, 103, 200] ?_
    simp only [go_sem, reduceIte, reduceCtorEq, Nat.reduceAdd, Nat.reduceMul, Nat.reduceEqDiff, Nat.reduceLT, Nat.reduceLeDiff, Nat.reduceSub, Nat.reducePow, Nat.reduceBEq, Int.reduceToNat, List.reduceReplicate]
    repeat with_reducible refine cj ?_ ?_
    all_goals try first | omega
    rw [← hQl1]
    change Exists _
    refine ⟨_, ?hm, j + 1, ?_, ?_, ?_, ?_, ?_, ?_, rfl, ?henv, ?hstore, ?hst⟩
    case henv =>
      repeat' (first | rfl | refine env_cons ?_ ?_ | refine st_cons ?_ ?_ ?_ ?_ | refine int_eq ?_ | refine bool_eq ?_ | refine rsl_eq ?_ | refine osl_eq ?_ | refine sl_eq ?_ ?_ ?_ | refine ptr_eq ?_ ?_ ?_ | refine agg_eq ?_ | refine es_cons ?_ ?_ | refine row_cons ?_ ?_)
      all_goals (first | (simp; done) | omega | (simp; omega))
    case hstore =>
      repeat' (first | rfl | refine env_cons ?_ ?_ | refine st_cons ?_ ?_ ?_ ?_ | refine int_eq ?_ | refine bool_eq ?_ | refine rsl_eq ?_ | refine osl_eq ?_ | refine sl_eq ?_ ?_ ?_ | refine ptr_eq ?_ ?_ ?_ | refine agg_eq ?_ | refine es_cons ?_ ?_ | refine row_cons ?_ ?_)
      all_goals (first | (simp; done) | omega | (simp; omega))
    case hst =>
      first | trivial | omega | (simp; done) | (simp; omega)
    case hm => omega
  · intro hb
    try simp only [hB, decide_eq_true_eq, decide_eq_false_iff_not] at hb
    refine AW.keep [2, 3] [102, 103, 112, 115, 200] ?_
    try simp only [go_sem, reduceIte, reduceCtorEq, Nat.reduceAdd, Nat.reduceMul, Nat.reduceEqDiff, Nat.reduceLT, Nat.reduceLeDiff, Nat.reduceSub, Nat.reducePow, Nat.reduceBEq, Int.reduceToNat, List.reduceReplicate]
    refine AW.exit ?_
    rw [← hQl1]
    refine hK3 _ _ _ ?_; clear hK3
    refine AW.seq fun K8 hK8 => ?_
    -- region 6
    refine AW.regionK 100 (fun _ => none) [2] [102, 200] ?_
    simp only [go_sem, reduceIte, reduceCtorEq, Nat.reduceAdd, Nat.reduceMul, Nat.reduceEqDiff, Nat.reduceLT, Nat.reduceLeDiff, Nat.reduceSub, Nat.reducePow, Nat.reduceBEq, Int.reduceToNat, List.reduceReplicate]
    repeat with_reducible refine cj ?_ ?_
    all_goals try first | omega
    refine hK8 _ _ _ ?_; clear hK8
    refine AW.ret ?_
    rw [← hQr]
    simp only [go_sem, reduceIte, reduceCtorEq, Nat.reduceAdd, Nat.reduceMul, Nat.reduceEqDiff, Nat.reduceLT, Nat.reduceLeDiff, Nat.reduceSub, Nat.reducePow, Nat.reduceBEq, Int.reduceToNat, List.reduceReplicate]
    have hj : j = n := by omega
    subst hj
    refine ⟨[(200, 0, true)], ?_⟩
    simp only [go_sem, reduceIte, Nat.reduceEqDiff, renC_tabO]
end Go.Proofs.R

/- What the relation program computes, over tables. -/
namespace Go.AM
def iter {α : Type} (f : Nat → α → α) : Nat → α → α
  | 0, x => x
  | m + 1, x => f m (iter f m x)
theorem iter_succ {α : Type} (f : Nat → α → α) (m : Nat) (x : α) : iter f (m + 1) x = f m (iter f m x) := rfl
theorem iter_inv {α : Type} {f : Nat → α → α} {p : α → Prop} {n : Nat} (hf : ∀ i x, i < n → p x → p (f i x)) : ∀ m x, m ≤ n → p x → p (iter f m x)
  | 0, _, _, h => h
  | m + 1, x, hm, h => hf m _ (by omega) (iter_inv hf m x (by omega) h)
def orRow (t : List (List Bool)) (i : Nat) (b : List Bool) : List (List Bool) := t.set i (List.zipWith (· || ·) (rowT t i) b)
theorem Sq.orRow {n : Nat} {t : List (List Bool)} (h : Sq n t) {i : Nat} (hi : i < n) {b : List Bool} (hb : b.length = n) : Sq n (orRow t i b) :=
  h.set i (by have := h.rowLen hi; simp; omega)
def warshI (k i : Nat) (t : List (List Bool)) : List (List Bool) := if atT t i k then orRow t i (rowT t k) else t
theorem warshI_eq (k i : Nat) (t : List (List Bool)) : warshI k i t = if atT t i k then orRow t i (rowT t k) else t := rfl
theorem Sq.warshI {n : Nat} {t : List (List Bool)} (h : Sq n t) {k i : Nat} (hk : k < n) (hi : i < n) : Sq n (warshI k i t) := by
  unfold AM.warshI; split
  · exact h.orRow hi (h.rowLen hk)
  · exact h
def warshK (n k : Nat) (t : List (List Bool)) : List (List Bool) := iter (warshI k) n t
theorem Sq.warshK' {n : Nat} {t : List (List Bool)} (h : Sq n t) {k : Nat} (hk : k < n) {m : Nat} (hm : m ≤ n) : Sq n (iter (AM.warshI k) m t) := iter_inv (n := n) (fun i x hi hx => hx.warshI hk hi) m t hm h
theorem Sq.warshK {n : Nat} {t : List (List Bool)} (h : Sq n t) {k : Nat} (hk : k < n) : Sq n (warshK n k t) := h.warshK' hk (Nat.le_refl _)
def warsh (n : Nat) (t : List (List Bool)) : List (List Bool) := iter (warshK n) n t
theorem Sq.warsh' {n : Nat} {t : List (List Bool)} (h : Sq n t) {m : Nat} (hm : m ≤ n) : Sq n (iter (AM.warshK n) m t) := iter_inv (n := n) (fun i x hi hx => hx.warshK hi) m t hm h
theorem Sq.warsh {n : Nat} {t : List (List Bool)} (h : Sq n t) : Sq n (warsh n t) := h.warsh' (Nat.le_refl _)
def zeroT (n : Nat) : List (List Bool) := List.replicate n (List.replicate n false)
def compI (a b : List (List Bool)) (i k : Nat) (t : List (List Bool)) : List (List Bool) := if atT a i k then orRow t i (rowT b k) else t
def compT (n : Nat) (a b : List (List Bool)) : List (List Bool) := iter (fun i t => iter (compI a b i) n t) n (zeroT n)
theorem compI_eq (a b : List (List Bool)) (i k : Nat) (t : List (List Bool)) : compI a b i k t = if atT a i k then orRow t i (rowT b k) else t := rfl
theorem Sq.compI {n : Nat} {a b t : List (List Bool)} (hb : Sq n b) (h : Sq n t) {i k : Nat} (hi : i < n) (hk : k < n) : Sq n (compI a b i k t) := by
  unfold AM.compI; split
  · exact h.orRow hi (hb.rowLen hk)
  · exact h
theorem Sq.compK {n : Nat} {a b t : List (List Bool)} (hb : Sq n b) (h : Sq n t) {i : Nat} (hi : i < n) {m : Nat} (hm : m ≤ n) : Sq n (iter (AM.compI a b i) m t) := iter_inv (p := Sq n) (n := n) (fun k x hk hx => Sq.compI hb hx hi hk) m t hm h
theorem Sq.comp' {n : Nat} {a b : List (List Bool)} (hb : Sq n b) {m : Nat} (hm : m ≤ n) : Sq n (iter (fun i t => iter (AM.compI a b i) n t) m (zeroT n)) := iter_inv (p := Sq n) (n := n) (fun i x hi hx => Sq.compK hb hx hi (Nat.le_refl _)) m _ hm (Sq.rep n)
theorem Sq.comp {n : Nat} {a b : List (List Bool)} (hb : Sq n b) : Sq n (compT n a b) := Sq.comp' hb (Nat.le_refl _)
def rowPairs (t : List (List Bool)) (i m : Nat) : List (Int × Int) := ((List.range m).filter fun j => atT t i j).map fun (j : Nat) => ((i : Int), (j : Int))
theorem rowPairs_succ (t : List (List Bool)) (i m : Nat) : rowPairs t i (m + 1) = if atT t i m then rowPairs t i m ++ [((i : Int), (m : Int))] else rowPairs t i m := by
  unfold rowPairs
  rw [List.range_succ, List.filter_append, List.map_append]
  by_cases h : atT t i m = true
  · rw [if_pos h]; simp [List.filter_cons, h]
  · rw [if_neg h]; simp [List.filter_cons, h]
theorem rowPairs_le (t : List (List Bool)) (i m : Nat) : (rowPairs t i m).length ≤ m := by
  unfold rowPairs
  have := List.length_filter_le (fun j => atT t i j) (List.range m)
  simp at this ⊢; exact this
def pairsAt (t : List (List Bool)) (n i : Nat) : List (Int × Int) := (List.range i).flatMap fun i => rowPairs t i n
def pairsT (t : List (List Bool)) (n : Nat) : List (Int × Int) := pairsAt t n n
theorem pairsAt_succ (t : List (List Bool)) (n i : Nat) : pairsAt t n (i + 1) = pairsAt t n i ++ rowPairs t i n := by
  unfold pairsAt; rw [List.range_succ, List.flatMap_append]; simp
theorem pairsAt_le (t : List (List Bool)) (n : Nat) : ∀ i, (pairsAt t n i).length ≤ n * i
  | 0 => by simp [pairsAt]
  | i + 1 => by
    have ih := pairsAt_le t n i
    have := rowPairs_le t i n
    rw [pairsAt_succ, List.length_append, Nat.mul_add]; omega
theorem pairsT_mem {t : List (List Bool)} {n : Nat} {p : Int × Int} : p ∈ pairsT t n ↔ ∃ i j : Nat, p = ((i : Int), (j : Int)) ∧ i < n ∧ j < n ∧ atT t i j = true := by
  simp only [pairsT, pairsAt, rowPairs, List.mem_flatMap, List.mem_map, List.mem_filter, List.mem_range]
  constructor
  · rintro ⟨i, hi, j, ⟨hj, h⟩, rfl⟩; exact ⟨i, j, rfl, hi, hj, h⟩
  · rintro ⟨i, j, rfl, hi, hj, h⟩; exact ⟨i, hi, j, ⟨hj, h⟩, rfl⟩
theorem pairs_app (l : List (Int × Int)) (a b : Int) : l.map pairV ++ [[.int .i64 a, .int .i64 b]] = (l ++ [(a, b)]).map pairV := by simp [pairV]
/-- A table half copied. -/
def fillT (t : List (List Bool)) (n i : Nat) : List (List Bool) := t.take i ++ List.replicate (n - i) (List.replicate n false)
theorem fillT_zero (t : List (List Bool)) (n : Nat) : fillT t n 0 = zeroT n := by simp [fillT, zeroT]
theorem fillT_all {n : Nat} {t : List (List Bool)} (h : Sq n t) : fillT t n n = t := by
  unfold fillT; rw [List.take_of_length_le (by rw [h.len]; exact Nat.le_refl _)]; simp
theorem fillT_succ {n : Nat} {t : List (List Bool)} (h : Sq n t) {i : Nat} (hi : i < n) : (fillT t n i).set i (rowT t i) = fillT t n (i + 1) := by
  unfold fillT
  have hl : (t.take i).length = i := by have := h.len; simp; omega
  rw [List.set_append_right _ _ (by omega), hl, Nat.sub_self, show n - i = (n - (i + 1)) + 1 by omega, List.replicate_succ, List.set_cons_zero, List.take_succ_eq_append_getElem (i := i) (by rw [h.len]; exact hi)]
  have : rowT t i = t[i]'(by rw [h.len]; exact hi) := rowT_of (List.getElem?_eq_getElem _)
  rw [this, List.append_assoc]; rfl
theorem fillT_sq {n : Nat} {t : List (List Bool)} (h : Sq n t) {i : Nat} (hi : i ≤ n) : Sq n (fillT t n i) := by
  refine ⟨by have := h.len; simp [fillT]; omega, fun b hb => ?_⟩
  unfold fillT at hb
  rcases List.mem_append.1 hb with hb | hb
  · exact h.row b (List.mem_of_mem_take hb)
  · rw [List.eq_of_mem_replicate hb]; simp
theorem fillT_row {n : Nat} {t : List (List Bool)} (h : Sq n t) {i : Nat} (hi : i < n) : rowT (fillT t n i) i = List.replicate n false := by
  unfold rowT fillT
  have hl : (t.take i).length = i := by have := h.len; simp; omega
  rw [List.getD_eq_getElem?_getD, List.getElem?_append_right (by omega), hl, Nat.sub_self, List.getElem?_replicate, if_pos (by omega)]; rfl
theorem range_all_succ {p : Nat → Bool} (j : Nat) : (List.range (j + 1)).all p = ((List.range j).all p && p j) := by
  rw [List.range_succ, List.all_append]; simp
theorem range_all_false {p : Nat → Bool} {j m : Nat} (h : j < m) (hp : p j = false) : (List.range m).all p = false := by
  rw [List.all_eq_false]; exact ⟨j, List.mem_range.2 h, by simp [hp]⟩
def acyc (n : Nat) (t : List (List Bool)) : Bool := (List.range n).all fun i => !atT (warsh n t) i i
def putT (u : List (List Bool)) (i j : Nat) : List (List Bool) := u.set i ((rowT u i).set j true)
theorem Sq.putT {n : Nat} {u : List (List Bool)} (h : Sq n u) {i : Nat} (hi : i < n) (j : Nat) : Sq n (putT u i j) := h.set i (by have := h.rowLen hi; simp; exact this)
def putL (u : List (List Bool)) (L : List (Int × Int)) : List (List Bool) := L.foldl (fun u p => putT u p.1.toNat p.2.toNat) u
def inP (n : Nat) (p : Int × Int) : Prop := 0 ≤ p.1 ∧ p.1 < n ∧ 0 ≤ p.2 ∧ p.2 < n
theorem Sq.putL {n : Nat} : ∀ (L : List (Int × Int)) {u : List (List Bool)}, Sq n u → (∀ p ∈ L, inP n p) → Sq n (putL u L)
  | [], _, h, _ => h
  | p :: L, u, h, hp => by
    have h1 := hp p (by simp)
    exact Sq.putL L (h.putT (i := p.1.toNat) (by unfold inP at h1; omega) _) fun q hq => hp q (by simp [hq])
theorem putL_snoc (u : List (List Bool)) (L : List (Int × Int)) (p : Int × Int) : putL u (L ++ [p]) = putT (putL u L) p.1.toNat p.2.toNat := by simp [putL]
theorem putL_take {u : List (List Bool)} {L : List (Int × Int)} {j : Nat} {p : Int × Int} (h : L[j]? = some p) : putL u (L.take (j + 1)) = putT (putL u (L.take j)) p.1.toNat p.2.toNat := by
  obtain ⟨hj, rfl⟩ := List.getElem?_eq_some_iff.1 h
  rw [List.take_succ_eq_append_getElem hj, putL_snoc]
theorem pairsT_in {t : List (List Bool)} {n : Nat} : ∀ p ∈ pairsT t n, inP n p := fun p hp => by
  obtain ⟨i, j, rfl, h1, h2, _⟩ := pairsT_mem.1 hp
  unfold inP; simp only; omega
/-- Words that are made one after the other. -/
def mixW (f : Int → Int → Int) (A B Z : List Int) (k : Nat) : List Int := List.zipWith f (A.take k) (B.take k) ++ Z.drop k
theorem mixW_zero (f : Int → Int → Int) (A B Z : List Int) : mixW f A B Z 0 = Z := by simp [mixW]
theorem mixW_len {f : Int → Int → Int} {A B Z : List Int} (h : A.length = B.length) (h2 : Z.length = A.length) (k : Nat) : (mixW f A B Z k).length = A.length := by simp [mixW]; omega
theorem mixW_all {f : Int → Int → Int} {A B Z : List Int} (h : A.length = B.length) (h2 : Z.length = A.length) {k : Nat} (hk : A.length ≤ k) : mixW f A B Z k = List.zipWith f A B := by
  unfold mixW; rw [List.take_of_length_le hk, List.take_of_length_le (by omega), List.drop_of_length_le (by omega)]; simp
theorem mixW_succ {f : Int → Int → Int} {A B Z : List Int} (h : A.length = B.length) (h2 : Z.length = A.length) {j : Nat} (hj : j < A.length) : mixW f A B Z (j + 1) = (mixW f A B Z j).set j (f (A.getD j 0) (B.getD j 0)) := by
  unfold mixW
  have hl : (List.zipWith f (A.take j) (B.take j)).length = j := by simp; omega
  rw [List.set_append_right _ _ (Nat.le_of_eq hl), hl, Nat.sub_self, List.drop_eq_getElem_cons (show j < Z.length by omega), List.set_cons_zero, List.take_succ_eq_append_getElem hj, List.take_succ_eq_append_getElem (show j < B.length by omega), List.zipWith_append (by simp; omega)]
  simp [List.getD_eq_getElem?_getD, hj, show j < B.length by omega]
def andNotB (a b : List Bool) : List Bool := List.zipWith (fun x y => x && !y) a b
def redT (n : Nat) (t l : List (List Bool)) : List (List Bool) := (List.range n).map fun i => andNotB (rowT t i) (rowT l i)
theorem Sq.red {n : Nat} {t l : List (List Bool)} (ht : Sq n t) (hl : Sq n l) : Sq n (redT n t l) := by
  refine ⟨by simp [redT], fun b hb => ?_⟩
  simp only [redT, List.mem_map, List.mem_range] at hb
  obtain ⟨i, hi, rfl⟩ := hb
  have h1 := ht.rowLen hi
  have h2 := hl.rowLen hi
  simp [andNotB]; omega
theorem redT_row {n : Nat} {t l : List (List Bool)} {i : Nat} (hi : i < n) : rowT (redT n t l) i = andNotB (rowT t i) (rowT l i) := rowT_of (by simp [redT, hi])
end Go.AM

namespace Go.Proofs.R
open Go.AM Go
set_option maxRecDepth 100000
set_option maxHeartbeats 1000000
theorem all_r (n : Nat) (t : List (List Bool)) (hs : Sq n t) (hn : n ≤ 512) : Reads Try.prog 52 true [relB t] (.rsl 2 ((pairsT t n).map pairV)) := by
  have hlen := hs.len
  have htl := tabR_len t
  have hh := fun i j hi hj => rhas_r n t hs hn i j hi hj
  unfold relB at *
  refine Reads.bodyF (rs := [.tmp 2]) Try.func52 rfl Try.ntmps52 rfl (by simp) ?_
  generalize hQr : retQ _ _ _ = Qr
  refine AW.seq fun K1 hK1 => ?_
  -- region 0
  refine AW.regionK 0 (fun _ => none) [1] [1] ?_
  simp only [go_sem, reduceIte, reduceCtorEq, Nat.reduceAdd, Nat.reduceMul, Nat.reduceEqDiff, Nat.reduceLT, Nat.reduceLeDiff, Nat.reduceSub, Nat.reducePow, Nat.reduceBEq, Int.reduceToNat, List.reduceReplicate, htl, hlen]
  repeat with_reducible refine cj ?_ ?_
  all_goals try first | omega
  refine hK1 _ _ _ ?_; clear hK1
  refine AW.seq fun K2 hK2 => ?_
  -- region 1
  refine AW.regionK 0 (fun _ => none) [1, 3] [1] ?_
  simp only [go_sem, reduceIte, reduceCtorEq, Nat.reduceAdd, Nat.reduceMul, Nat.reduceEqDiff, Nat.reduceLT, Nat.reduceLeDiff, Nat.reduceSub, Nat.reducePow, Nat.reduceBEq, Int.reduceToNat, List.reduceReplicate, htl, hlen]
  repeat with_reducible refine cj ?_ ?_
  all_goals try first | omega
  refine hK2 _ _ _ ?_; clear hK2
  refine AW.seq fun K3 hK3 => ?_
  refine AW.seq fun K4 hK4 => ?_
  -- region 2
  refine AW.regionK 0 (fun _ => none) [1, 3, 8, 9] [1] ?_
  simp only [go_sem, reduceIte, reduceCtorEq, Nat.reduceAdd, Nat.reduceMul, Nat.reduceEqDiff, Nat.reduceLT, Nat.reduceLeDiff, Nat.reduceSub, Nat.reducePow, Nat.reduceBEq, Int.reduceToNat, List.reduceReplicate, htl, hlen]
  repeat with_reducible refine cj ?_ ?_
  all_goals try first | omega
  refine hK4 _ _ _ ?_; clear hK4
  refine AW.block ?_
  refine AW.nilOwn 3 200 2 (by simp only [go_sem, reduceIte, Nat.reduceEqDiff]) ?_
  refine AW.keep [1, 3, 8, 9] [1, 200] ?_
  simp only [go_sem, reduceIte, Nat.reduceEqDiff]
  -- loop 1
  refine AW.loopE (fun mm ee ss kk => ∃ (i g1 v1 g v : Nat), n - i = mm ∧ ee = [(1, .ptr ⟨1, g1, none⟩ 0 0), (3, .sl ⟨200, g, none⟩ 0 (pairsAt t n i).length none), (8, .int .i64 n), (9, .int .i64 (i : Nat))] ∧ ss = [(1, some ⟨g1, v1, 1, [[.rsl 2 (tabR t)]]⟩), (200, some ⟨g, v, 2, (pairsAt t n i).map pairV⟩)] ∧ (i ≤ n)) ?_ ?_
  · refine ⟨_, 0, ?_, ?_, ?_, ?_, rfl, ?henv, ?hstore, ?hst⟩
    case henv =>
      repeat' (first | rfl | refine env_cons ?_ ?_ | refine st_cons ?_ ?_ ?_ ?_ | refine int_eq ?_ | refine bool_eq ?_ | refine rsl_eq ?_ | refine osl_eq ?_ | refine sl_eq ?_ ?_ ?_ | refine ptr_eq ?_ ?_ ?_ | refine agg_eq ?_ | refine es_cons ?_ ?_ | refine row_cons ?_ ?_)
      all_goals (first | (simp; done) | omega | (simp; omega))
    case hstore =>
      repeat' (first | rfl | refine env_cons ?_ ?_ | refine st_cons ?_ ?_ ?_ ?_ | refine int_eq ?_ | refine bool_eq ?_ | refine rsl_eq ?_ | refine osl_eq ?_ | refine sl_eq ?_ ?_ ?_ | refine ptr_eq ?_ ?_ ?_ | refine agg_eq ?_ | refine es_cons ?_ ?_ | refine row_cons ?_ ?_)
      all_goals (first | (simp; done) | omega | (simp; omega))
    case hst =>
      first | trivial | omega | (simp; done) | (simp; omega)
  rintro mm ee ss kk ⟨i, g1, v1, g, v, rfl, rfl, rfl, hI⟩
  generalize hQl1 : thenQ _ _ = Ql1
  refine AW.seq fun K5 hK5 => ?_
  -- region 3
  refine AW.regionK 0 (fun _ => none) [1, 3, 8, 9, 10] [1, 200] ?_
  simp only [go_sem, reduceIte, reduceCtorEq, Nat.reduceAdd, Nat.reduceMul, Nat.reduceEqDiff, Nat.reduceLT, Nat.reduceLeDiff, Nat.reduceSub, Nat.reducePow, Nat.reduceBEq, Int.reduceToNat, List.reduceReplicate, htl, hlen]
  repeat with_reducible refine cj ?_ ?_
  all_goals try first | omega
  refine hK5 _ _ _ ?_; clear hK5
  refine AW.seq fun K6 hK6 => ?_
  -- cond 1
  refine AW.cond rfl (by simp only [go_sem, reduceIte, reduceCtorEq, Nat.reduceAdd, Nat.reduceMul, Nat.reduceEqDiff, Nat.reduceLT, Nat.reduceLeDiff, Nat.reduceSub, Nat.reducePow, Nat.reduceBEq, Int.reduceToNat, List.reduceReplicate]) ?_ ?_
  · intro hb
    try simp only [hB, decide_eq_true_eq, decide_eq_false_iff_not] at hb
    refine AW.skip ?_
    refine hK6 _ _ _ ?_; clear hK6
    refine AW.seq fun K7 hK7 => ?_
    refine AW.block ?_
    refine AW.seq fun K8 hK8 => ?_
    -- region 4
    refine AW.regionK 0 (fun _ => none) [1, 3, 4, 8, 9] [1, 200] ?_
    simp only [go_sem, reduceIte, reduceCtorEq, Nat.reduceAdd, Nat.reduceMul, Nat.reduceEqDiff, Nat.reduceLT, Nat.reduceLeDiff, Nat.reduceSub, Nat.reducePow, Nat.reduceBEq, Int.reduceToNat, List.reduceReplicate, htl, hlen]
    repeat with_reducible refine cj ?_ ?_
    all_goals try first | omega
    refine hK8 _ _ _ ?_; clear hK8
    refine AW.seq fun K9 hK9 => ?_
    -- region 5
    refine AW.regionK 0 (fun _ => none) [1, 3, 4, 8, 9, 14, 15] [1, 200] ?_
    simp only [go_sem, reduceIte, reduceCtorEq, Nat.reduceAdd, Nat.reduceMul, Nat.reduceEqDiff, Nat.reduceLT, Nat.reduceLeDiff, Nat.reduceSub, Nat.reducePow, Nat.reduceBEq, Int.reduceToNat, List.reduceReplicate, htl, hlen]
    repeat with_reducible refine cj ?_ ?_
    all_goals try first | omega
    refine hK9 _ _ _ ?_; clear hK9
    refine AW.block ?_
    -- loop 2
    refine AW.loopE (fun mm ee ss kk => ∃ (j g1 v1 g v : Nat), n - j = mm ∧ ee = [(1, .ptr ⟨1, g1, none⟩ 0 0), (3, .sl ⟨200, g, none⟩ 0 (pairsAt t n i ++ rowPairs t i j).length none), (4, .int .i64 (i : Nat)), (8, .int .i64 n), (9, .int .i64 (i : Nat)), (14, .int .i64 n), (15, .int .i64 (j : Nat))] ∧ ss = [(1, some ⟨g1, v1, 1, [[.rsl 2 (tabR t)]]⟩), (200, some ⟨g, v, 2, (pairsAt t n i ++ rowPairs t i j).map pairV⟩)] ∧ (j ≤ n)) ?_ ?_
    · refine ⟨_, 0, ?_, ?_, ?_, ?_, rfl, ?henv, ?hstore, ?hst⟩
      case henv =>
        repeat' (first | rfl | refine env_cons ?_ ?_ | refine st_cons ?_ ?_ ?_ ?_ | refine int_eq ?_ | refine bool_eq ?_ | refine rsl_eq ?_ | refine osl_eq ?_ | refine sl_eq ?_ ?_ ?_ | refine ptr_eq ?_ ?_ ?_ | refine agg_eq ?_ | refine es_cons ?_ ?_ | refine row_cons ?_ ?_)
        all_goals (simp [rowPairs])
      case hstore =>
        repeat' (first | rfl | refine env_cons ?_ ?_ | refine st_cons ?_ ?_ ?_ ?_ | refine int_eq ?_ | refine bool_eq ?_ | refine rsl_eq ?_ | refine osl_eq ?_ | refine sl_eq ?_ ?_ ?_ | refine ptr_eq ?_ ?_ ?_ | refine agg_eq ?_ | refine es_cons ?_ ?_ | refine row_cons ?_ ?_)
        all_goals (simp [rowPairs])
      case hst =>
        first | trivial | omega | (simp; done) | (simp; omega)
    rintro mm ee ss kk ⟨j, g1, v1, g, v, rfl, rfl, rfl, hI⟩
    generalize hQl2 : thenQ _ _ = Ql2
    refine AW.seq fun K10 hK10 => ?_
    -- region 6
    refine AW.regionK 0 (fun _ => none) [1, 3, 4, 8, 9, 14, 15, 16] [1, 200] ?_
    simp only [go_sem, reduceIte, reduceCtorEq, Nat.reduceAdd, Nat.reduceMul, Nat.reduceEqDiff, Nat.reduceLT, Nat.reduceLeDiff, Nat.reduceSub, Nat.reducePow, Nat.reduceBEq, Int.reduceToNat, List.reduceReplicate, htl, hlen]
    repeat with_reducible refine cj ?_ ?_
    all_goals try first | omega
    refine hK10 _ _ _ ?_; clear hK10
    refine AW.seq fun K11 hK11 => ?_
    -- cond 2
    refine AW.cond rfl (by simp only [go_sem, reduceIte, reduceCtorEq, Nat.reduceAdd, Nat.reduceMul, Nat.reduceEqDiff, Nat.reduceLT, Nat.reduceLeDiff, Nat.reduceSub, Nat.reducePow, Nat.reduceBEq, Int.reduceToNat, List.reduceReplicate]) ?_ ?_
    · intro hb
      try simp only [hB, decide_eq_true_eq, decide_eq_false_iff_not] at hb
      have hhr := Reads.flat (hh i j (by omega) (by omega)) rfl
      have hps := rowPairs_succ t i j
      have hpl := pairsAt_le t n i
      have hrl := rowPairs_le t i j
      have hmul : n * i ≤ 262144 := Nat.le_trans (Nat.mul_le_mul hn (by omega : i ≤ 512)) (by decide)
      have hll : (pairsAt t n i ++ rowPairs t i j).length ≤ 300000 := by rw [List.length_append]; omega
      have hml : ((pairsAt t n i ++ rowPairs t i j).map pairV).length = (pairsAt t n i ++ rowPairs t i j).length := by simp
      have htk : ((pairsAt t n i ++ rowPairs t i j).map pairV).take (pairsAt t n i ++ rowPairs t i j).length = (pairsAt t n i ++ rowPairs t i j).map pairV := List.take_of_length_le (by simp)
      generalize hL : pairsAt t n i ++ rowPairs t i j = L at *
      refine AW.skip ?_
      refine hK11 _ _ _ ?_; clear hK11
      refine AW.seq fun K12 hK12 => ?_
      refine AW.block ?_
      refine AW.seq fun K13 hK13 => ?_
      -- region 7
      refine AW.regionK 0 (fun _ => none) [1, 3, 4, 5, 8, 9, 14, 15] [1, 200] ?_
      simp only [go_sem, reduceIte, reduceCtorEq, Nat.reduceAdd, Nat.reduceMul, Nat.reduceEqDiff, Nat.reduceLT, Nat.reduceLeDiff, Nat.reduceSub, Nat.reducePow, Nat.reduceBEq, Int.reduceToNat, List.reduceReplicate, htl, hlen]
      repeat with_reducible refine cj ?_ ?_
      all_goals try first | omega
      refine hK13 _ _ _ ?_; clear hK13
      refine AW.seq fun K14 hK14 => ?_
      -- region 8
      refine AW.regionK 0 (fun ii => if ii = 3 then some (.reads true (.bool (atT t i j))) else none) [1, 3, 4, 5, 8, 9, 14, 15, 21] [1, 200] ?_
      simp only [go_sem, reduceIte, reduceCtorEq, Nat.reduceAdd, Nat.reduceMul, Nat.reduceEqDiff, Nat.reduceLT, Nat.reduceLeDiff, Nat.reduceSub, Nat.reducePow, Nat.reduceBEq, Int.reduceToNat, List.reduceReplicate, htl, hlen]
      repeat with_reducible refine cj ?_ ?_
      all_goals try first | (exact hhr) | omega | exact ent (by kernel_rfl)
      refine hK14 _ _ _ ?_; clear hK14
      -- cond 3
      refine AW.cond rfl (by simp only [go_sem, reduceIte, reduceCtorEq, Nat.reduceAdd, Nat.reduceMul, Nat.reduceEqDiff, Nat.reduceLT, Nat.reduceLeDiff, Nat.reduceSub, Nat.reducePow, Nat.reduceBEq, Int.reduceToNat, List.reduceReplicate]) ?_ ?_
      · intro hb
        try simp only [hB, decide_eq_true_eq, decide_eq_false_iff_not] at hb
        rw [if_pos hb] at hps
        have hLs : pairsAt t n i ++ rowPairs t i (j + 1) = L ++ [((i : Int), (j : Int))] := by rw [hps, ← List.append_assoc, hL]
        -- region 9
        refine AW.regionK 0 (fun _ => none) [1, 3, 4, 8, 9, 14, 15] [1, 200] ?_
        simp only [go_sem, reduceIte, reduceCtorEq, Nat.reduceAdd, Nat.reduceMul, Nat.reduceEqDiff, Nat.reduceLT, Nat.reduceLeDiff, Nat.reduceSub, Nat.reducePow, Nat.reduceBEq, Int.reduceToNat, List.reduceReplicate, htl, hlen, htk, hml, pairs_app]
        repeat with_reducible refine cj ?_ ?_
        all_goals try first | omega | (simp [scP, scalar]; done) | exact scP_words _ | exact scP_ints _ | exact scP_bools _
        refine hK12 _ _ _ ?_; clear hK12
        -- region 10
        refine AW.regionK 0 (fun _ => none) [1, 3, 4, 8, 9, 14, 15] [1, 200] ?_
        simp only [go_sem, reduceIte, reduceCtorEq, Nat.reduceAdd, Nat.reduceMul, Nat.reduceEqDiff, Nat.reduceLT, Nat.reduceLeDiff, Nat.reduceSub, Nat.reducePow, Nat.reduceBEq, Int.reduceToNat, List.reduceReplicate, htl, hlen]
        repeat with_reducible refine cj ?_ ?_
        all_goals try first | omega
        rw [← hQl2]
        change Exists _
        refine ⟨_, ?hm, j + 1, ?_, ?_, ?_, ?_, rfl, ?henv, ?hstore, ?hst⟩
        case henv =>
          repeat' (first | rfl | refine env_cons ?_ ?_ | refine st_cons ?_ ?_ ?_ ?_ | refine int_eq ?_ | refine bool_eq ?_ | refine rsl_eq ?_ | refine osl_eq ?_ | refine sl_eq ?_ ?_ ?_ | refine ptr_eq ?_ ?_ ?_ | refine agg_eq ?_ | refine es_cons ?_ ?_ | refine row_cons ?_ ?_)
          all_goals (rw [hLs]; try simp)
        case hstore =>
          repeat' (first | rfl | refine env_cons ?_ ?_ | refine st_cons ?_ ?_ ?_ ?_ | refine int_eq ?_ | refine bool_eq ?_ | refine rsl_eq ?_ | refine osl_eq ?_ | refine sl_eq ?_ ?_ ?_ | refine ptr_eq ?_ ?_ ?_ | refine agg_eq ?_ | refine es_cons ?_ ?_ | refine row_cons ?_ ?_)
          all_goals (rw [hLs])
        case hst =>
          first | trivial | omega | (simp; done) | (simp; omega)
        case hm => omega
      · intro hb
        try simp only [hB, decide_eq_true_eq, decide_eq_false_iff_not] at hb
        rw [if_neg (by rw [hb]; simp)] at hps
        have hLs : pairsAt t n i ++ rowPairs t i (j + 1) = L := by rw [hps, hL]
        refine AW.skip ?_
        refine hK12 _ _ _ ?_; clear hK12
        -- region 10
        refine AW.regionK 0 (fun _ => none) [1, 3, 4, 8, 9, 14, 15] [1, 200] ?_
        simp only [go_sem, reduceIte, reduceCtorEq, Nat.reduceAdd, Nat.reduceMul, Nat.reduceEqDiff, Nat.reduceLT, Nat.reduceLeDiff, Nat.reduceSub, Nat.reducePow, Nat.reduceBEq, Int.reduceToNat, List.reduceReplicate, htl, hlen]
        repeat with_reducible refine cj ?_ ?_
        all_goals try first | omega
        rw [← hQl2]
        change Exists _
        refine ⟨_, ?hm, j + 1, ?_, ?_, ?_, ?_, rfl, ?henv, ?hstore, ?hst⟩
        case henv =>
          repeat' (first | rfl | refine env_cons ?_ ?_ | refine st_cons ?_ ?_ ?_ ?_ | refine int_eq ?_ | refine bool_eq ?_ | refine rsl_eq ?_ | refine osl_eq ?_ | refine sl_eq ?_ ?_ ?_ | refine ptr_eq ?_ ?_ ?_ | refine agg_eq ?_ | refine es_cons ?_ ?_ | refine row_cons ?_ ?_)
          all_goals (rw [hLs]; try simp)
        case hstore =>
          repeat' (first | rfl | refine env_cons ?_ ?_ | refine st_cons ?_ ?_ ?_ ?_ | refine int_eq ?_ | refine bool_eq ?_ | refine rsl_eq ?_ | refine osl_eq ?_ | refine sl_eq ?_ ?_ ?_ | refine ptr_eq ?_ ?_ ?_ | refine agg_eq ?_ | refine es_cons ?_ ?_ | refine row_cons ?_ ?_)
          all_goals (rw [hLs])
        case hst =>
          first | trivial | omega | (simp; done) | (simp; omega)
        case hm => omega
    · intro hb
      try simp only [hB, decide_eq_true_eq, decide_eq_false_iff_not] at hb
      have hj : j = n := by omega
      subst hj
      have hps := pairsAt_succ t j i
      refine AW.exit ?_
      rw [← hQl2]
      refine hK7 _ _ _ ?_; clear hK7
      -- region 11
      refine AW.regionK 0 (fun _ => none) [1, 3, 8, 9] [1, 200] ?_
      simp only [go_sem, reduceIte, reduceCtorEq, Nat.reduceAdd, Nat.reduceMul, Nat.reduceEqDiff, Nat.reduceLT, Nat.reduceLeDiff, Nat.reduceSub, Nat.reducePow, Nat.reduceBEq, Int.reduceToNat, List.reduceReplicate, htl, hlen]
      repeat with_reducible refine cj ?_ ?_
      all_goals try first | omega
      rw [← hQl1]
      change Exists _
      refine ⟨_, ?hm, i + 1, ?_, ?_, ?_, ?_, rfl, ?henv, ?hstore, ?hst⟩
      case henv =>
        repeat' (first | rfl | refine env_cons ?_ ?_ | refine st_cons ?_ ?_ ?_ ?_ | refine int_eq ?_ | refine bool_eq ?_ | refine rsl_eq ?_ | refine osl_eq ?_ | refine sl_eq ?_ ?_ ?_ | refine ptr_eq ?_ ?_ ?_ | refine agg_eq ?_ | refine es_cons ?_ ?_ | refine row_cons ?_ ?_)
        all_goals (rw [hps])
      case hstore =>
        repeat' (first | rfl | refine env_cons ?_ ?_ | refine st_cons ?_ ?_ ?_ ?_ | refine int_eq ?_ | refine bool_eq ?_ | refine rsl_eq ?_ | refine osl_eq ?_ | refine sl_eq ?_ ?_ ?_ | refine ptr_eq ?_ ?_ ?_ | refine agg_eq ?_ | refine es_cons ?_ ?_ | refine row_cons ?_ ?_)
        all_goals (rw [hps])
      case hst =>
        first | trivial | omega | (simp; done) | (simp; omega)
      case hm => omega
  · intro hb
    try simp only [hB, decide_eq_true_eq, decide_eq_false_iff_not] at hb
    refine AW.exit ?_
    rw [← hQl1]
    refine hK3 _ _ _ ?_; clear hK3
    refine AW.seq fun K15 hK15 => ?_
    -- region 12
    refine AW.regionK 0 (fun _ => none) [2] [200] ?_
    simp only [go_sem, reduceIte, reduceCtorEq, Nat.reduceAdd, Nat.reduceMul, Nat.reduceEqDiff, Nat.reduceLT, Nat.reduceLeDiff, Nat.reduceSub, Nat.reducePow, Nat.reduceBEq, Int.reduceToNat, List.reduceReplicate, htl, hlen]
    repeat with_reducible refine cj ?_ ?_
    all_goals try first | omega
    refine hK15 _ _ _ ?_; clear hK15
    refine AW.ret ?_
    rw [← hQr]
    simp only [go_sem, reduceIte, reduceCtorEq, Nat.reduceAdd, Nat.reduceMul, Nat.reduceEqDiff, Nat.reduceLT, Nat.reduceLeDiff, Nat.reduceSub, Nat.reducePow, Nat.reduceBEq, Int.reduceToNat, List.reduceReplicate, htl, hlen]
    have hi : i = n := by omega
    subst hi
    rw [List.take_of_length_le (by simp), vwcF_pairs]
    exact Wk.refl _
theorem closure_r (n : Nat) (t : List (List Bool)) (hs : Sq n t) (hn : n ≤ 512) : Reads Try.prog 54 true [relB t] (relB (warsh n t)) := by
  have hlen := hs.len
  have htl := tabR_len t
  have hemp := empty_u n hn
  have hwn := wordsN_rng (n := (n : Int)) (by omega)
  unfold relB at *
  refine Reads.bodyF (rs := [.cell 2 24]) Try.func54 rfl Try.ntmps54 rfl (by simp) ?_
  generalize hQr : retQ _ _ _ = Qr
  refine AW.seq fun K1 hK1 => ?_
  -- region 0
  refine AW.regionK 0 (fun _ => none) [1, 2] [1, 2] ?_
  simp only [go_sem, reduceIte, reduceCtorEq, Nat.reduceAdd, Nat.reduceMul, Nat.reduceEqDiff, Nat.reduceLT, Nat.reduceLeDiff, Nat.reduceSub, Nat.reducePow, Nat.reduceBEq, Int.reduceToNat, List.reduceReplicate, htl, hlen, renC_tabO]
  repeat with_reducible refine cj ?_ ?_
  all_goals try first | omega
  refine hK1 _ _ _ ?_; clear hK1
  refine AW.seq fun K2 hK2 => ?_
  -- region 1
  refine AW.regionK 0 (fun ii => if ii = 3 then some (.upd [] (fun k => [(0, some ⟨k, k, 2, tabO (List.replicate n (List.replicate n false))⟩)]) (fun k => .agg [.sl ⟨0, k, none⟩ 0 n none])) else none) [1, 2, 3] [1, 2, 3, 11] ?_
  simp only [go_sem, reduceIte, reduceCtorEq, Nat.reduceAdd, Nat.reduceMul, Nat.reduceEqDiff, Nat.reduceLT, Nat.reduceLeDiff, Nat.reduceSub, Nat.reducePow, Nat.reduceBEq, Int.reduceToNat, List.reduceReplicate, htl, hlen, renC_tabO]
  repeat with_reducible refine cj ?_ ?_
  all_goals try first | (exact hemp) | omega | exact ent (by kernel_rfl)
  refine hK2 _ _ _ ?_; clear hK2
  refine AW.seq fun K3 hK3 => ?_
  refine AW.seq fun K4 hK4 => ?_
  -- region 2
  refine AW.regionK 0 (fun _ => none) [2, 3, 13, 14, 15] [2, 3, 11] ?_
  simp only [go_sem, reduceIte, reduceCtorEq, Nat.reduceAdd, Nat.reduceMul, Nat.reduceEqDiff, Nat.reduceLT, Nat.reduceLeDiff, Nat.reduceSub, Nat.reducePow, Nat.reduceBEq, Int.reduceToNat, List.reduceReplicate, htl, hlen, renC_tabO]
  repeat with_reducible refine cj ?_ ?_
  all_goals try first | omega
  refine hK4 _ _ _ ?_; clear hK4
  refine AW.block ?_
  -- loop 1
  refine AW.loopE (fun mm ee ss kk => ∃ (i g2 v2 g3 v3 g v : Nat), n - i = mm ∧ ee = [(2, .ptr ⟨2, g2, none⟩ 0 0), (3, .ptr ⟨3, g3, none⟩ 0 0), (13, .rsl 2 (tabR t)), (14, .int .i64 n), (15, .int .i64 (i : Nat))] ∧ ss = [(2, some ⟨g2, v2, 1, [[.nilsl]]⟩), (3, some ⟨g3, v3, 1, [[.sl ⟨11, g, none⟩ 0 n none]]⟩), (11, some ⟨g, v, 2, tabO (fillT t n i)⟩)] ∧ (i ≤ n)) ?_ ?_
  · refine ⟨_, 0, ?_, ?_, ?_, ?_, ?_, ?_, rfl, ?henv, ?hstore, ?hst⟩
    case henv =>
      repeat' (first | rfl | refine env_cons ?_ ?_ | refine st_cons ?_ ?_ ?_ ?_ | refine int_eq ?_ | refine bool_eq ?_ | refine rsl_eq ?_ | refine osl_eq ?_ | refine sl_eq ?_ ?_ ?_ | refine ptr_eq ?_ ?_ ?_ | refine agg_eq ?_ | refine es_cons ?_ ?_ | refine row_cons ?_ ?_)
      all_goals (first | (simp; done) | omega | (simp; omega))
    case hstore =>
      repeat' (first | rfl | refine env_cons ?_ ?_ | refine st_cons ?_ ?_ ?_ ?_ | refine int_eq ?_ | refine bool_eq ?_ | refine rsl_eq ?_ | refine osl_eq ?_ | refine sl_eq ?_ ?_ ?_ | refine ptr_eq ?_ ?_ ?_ | refine agg_eq ?_ | refine es_cons ?_ ?_ | refine row_cons ?_ ?_)
      all_goals (rw [fillT_zero]; rfl)
    case hst =>
      first | trivial | omega | (simp; done) | (simp; omega)
  rintro mm ee ss kk ⟨i, g2, v2, g3, v3, g, v, rfl, rfl, rfl, hI⟩
  generalize hQl1 : thenQ _ _ = Ql1
  refine AW.seq fun K5 hK5 => ?_
  -- region 3
  refine AW.regionK 0 (fun _ => none) [2, 3, 13, 14, 15, 16] [2, 3, 11] ?_
  simp only [go_sem, reduceIte, reduceCtorEq, Nat.reduceAdd, Nat.reduceMul, Nat.reduceEqDiff, Nat.reduceLT, Nat.reduceLeDiff, Nat.reduceSub, Nat.reducePow, Nat.reduceBEq, Int.reduceToNat, List.reduceReplicate, htl, hlen, renC_tabO]
  repeat with_reducible refine cj ?_ ?_
  all_goals try first | omega
  refine hK5 _ _ _ ?_; clear hK5
  refine AW.seq fun K6 hK6 => ?_
  -- cond 1
  refine AW.cond rfl (by simp only [go_sem, reduceIte, reduceCtorEq, Nat.reduceAdd, Nat.reduceMul, Nat.reduceEqDiff, Nat.reduceLT, Nat.reduceLeDiff, Nat.reduceSub, Nat.reducePow, Nat.reduceBEq, Int.reduceToNat, List.reduceReplicate]) ?_ ?_
  · intro hb
    try simp only [hB, decide_eq_true_eq, decide_eq_false_iff_not] at hb
    have hsf := fillT_sq hs (i := i) (by omega)
    have hgr := tabR_get (t := t) (i := i) (by omega)
    have hgo := tabO_get (t := fillT t n i) (i := i) (by rw [hsf.len]; omega)
    rw [fillT_row hs (by omega)] at hgo
    have hto := tabO_len (fillT t n i)
    have hsl := hsf.len
    have hrl := hs.rowLen (i := i) (by omega)
    have hfs := fillT_succ hs (i := i) (by omega)
    have hts := tabO_set (fillT t n i) i (rowT t i)
    have hwl := setW_len' (rowT t i)
    have hwz := setW_len' (List.replicate n false)
    rw [hrl] at hwl
    rw [List.length_replicate] at hwz
    have hmin : min (setW (rowT t i) n).length (setW (List.replicate n false) n).length = (setW (rowT t i) n).length := by omega
    have hdr : (words (setW (List.replicate n false) n)).drop (setW (rowT t i) n).length = [] := List.drop_of_length_le (by rw [words_len]; omega)
    have hro : [AV.int .i64 n, .osl 1 (words (setW (rowT t i) n))] = rowO (rowT t i) := by rw [rowO, hrl]
    refine AW.skip ?_
    refine hK6 _ _ _ ?_; clear hK6
    refine AW.seq fun K7 hK7 => ?_
    refine AW.block ?_
    refine AW.seq fun K8 hK8 => ?_
    -- region 4
    refine AW.regionK 0 (fun _ => none) [2, 3, 4, 5, 13, 14, 15] [2, 3, 5, 11] ?_
    simp only [go_sem, reduceIte, reduceCtorEq, Nat.reduceAdd, Nat.reduceMul, Nat.reduceEqDiff, Nat.reduceLT, Nat.reduceLeDiff, Nat.reduceSub, Nat.reducePow, Nat.reduceBEq, Int.reduceToNat, List.reduceReplicate, htl, hlen, renC_tabO, hgr, rowB, hrl]
    repeat with_reducible refine cj ?_ ?_
    all_goals try first | omega
    refine hK8 _ _ _ ?_; clear hK8
    -- region 5
    refine AW.regionD mixed 0 (fun _ => none) [2, 3, 13, 14, 15] [2, 3, 11] ?_
    simp only [go_sem, reduceIte, reduceCtorEq, Nat.reduceAdd, Nat.reduceMul, Nat.reduceEqDiff, Nat.reduceLT, Nat.reduceLeDiff, Nat.reduceSub, Nat.reducePow, Nat.reduceBEq, Int.reduceToNat, List.reduceReplicate, htl, hlen, renC_tabO, hgo, rowO, List.length_replicate, hmin, hdr, List.append_nil]
    repeat with_reducible refine cj ?_ ?_
    all_goals try first | omega | exact chk (by kernel_rfl) | (simp [scP, scalar]; done) | exact scP_words _ | exact scP_ints _ | exact scP_bools _
    refine hK7 _ _ _ ?_; clear hK7
    -- region 6
    refine AW.regionK 0 (fun _ => none) [2, 3, 13, 14, 15] [2, 3, 11] ?_
    simp only [go_sem, reduceIte, reduceCtorEq, Nat.reduceAdd, Nat.reduceMul, Nat.reduceEqDiff, Nat.reduceLT, Nat.reduceLeDiff, Nat.reduceSub, Nat.reducePow, Nat.reduceBEq, Int.reduceToNat, List.reduceReplicate, htl, hlen, renC_tabO]
    repeat with_reducible refine cj ?_ ?_
    all_goals try first | omega
    rw [← hQl1]
    change Exists _
    refine ⟨_, ?hm, i + 1, ?_, ?_, ?_, ?_, ?_, ?_, rfl, ?henv, ?hstore, ?hst⟩
    case henv =>
      repeat' (first | rfl | refine env_cons ?_ ?_ | refine st_cons ?_ ?_ ?_ ?_ | refine int_eq ?_ | refine bool_eq ?_ | refine rsl_eq ?_ | refine osl_eq ?_ | refine sl_eq ?_ ?_ ?_ | refine ptr_eq ?_ ?_ ?_ | refine agg_eq ?_ | refine es_cons ?_ ?_ | refine row_cons ?_ ?_)
      all_goals (first | (simp; done) | omega | (simp; omega))
    case hstore =>
      repeat' (first | rfl | refine env_cons ?_ ?_ | refine st_cons ?_ ?_ ?_ ?_ | refine int_eq ?_ | refine bool_eq ?_ | refine rsl_eq ?_ | refine osl_eq ?_ | refine sl_eq ?_ ?_ ?_ | refine ptr_eq ?_ ?_ ?_ | refine agg_eq ?_ | refine es_cons ?_ ?_ | refine row_cons ?_ ?_)
      all_goals (rw [← hfs, ← hts, ← hro])
    case hst =>
      first | trivial | omega | (simp; done) | (simp; omega)
    case hm => omega
  · intro hb
    try simp only [hB, decide_eq_true_eq, decide_eq_false_iff_not] at hb
    have hi : i = n := by omega
    subst hi
    rw [fillT_all hs]
    refine AW.keep [2, 3] [2, 3, 11] ?_
    try simp only [go_sem, reduceIte, reduceCtorEq, Nat.reduceAdd, Nat.reduceMul, Nat.reduceEqDiff, Nat.reduceLT, Nat.reduceLeDiff, Nat.reduceSub, Nat.reducePow, Nat.reduceBEq, Int.reduceToNat, List.reduceReplicate]
    refine AW.exit ?_
    rw [← hQl1]
    refine hK3 _ _ _ ?_; clear hK3
    refine AW.seq fun K9 hK9 => ?_
    refine AW.seq fun K10 hK10 => ?_
    -- region 7
    refine AW.regionK 0 (fun _ => none) [2, 3, 32, 33] [2, 3, 11] ?_
    simp only [go_sem, reduceIte, reduceCtorEq, Nat.reduceAdd, Nat.reduceMul, Nat.reduceEqDiff, Nat.reduceLT, Nat.reduceLeDiff, Nat.reduceSub, Nat.reducePow, Nat.reduceBEq, Int.reduceToNat, List.reduceReplicate, htl, hlen, renC_tabO]
    repeat with_reducible refine cj ?_ ?_
    all_goals try first | omega
    refine hK10 _ _ _ ?_; clear hK10
    refine AW.block ?_
    -- loop 2
    refine AW.loopE (fun mm ee ss kk => ∃ (k g2 v2 g3 v3 g v : Nat), i - k = mm ∧ ee = [(2, .ptr ⟨2, g2, none⟩ 0 0), (3, .ptr ⟨3, g3, none⟩ 0 0), (32, .int .i64 i), (33, .int .i64 (k : Nat))] ∧ ss = [(2, some ⟨g2, v2, 1, [[.nilsl]]⟩), (3, some ⟨g3, v3, 1, [[.sl ⟨11, g, none⟩ 0 i none]]⟩), (11, some ⟨g, v, 2, tabO (iter (warshK i) k t)⟩)] ∧ (k ≤ i)) ?_ ?_
    · refine ⟨_, 0, ?_, ?_, ?_, ?_, ?_, ?_, rfl, ?henv, ?hstore, ?hst⟩
      case henv =>
        repeat' (first | rfl | refine env_cons ?_ ?_ | refine st_cons ?_ ?_ ?_ ?_ | refine int_eq ?_ | refine bool_eq ?_ | refine rsl_eq ?_ | refine osl_eq ?_ | refine sl_eq ?_ ?_ ?_ | refine ptr_eq ?_ ?_ ?_ | refine agg_eq ?_ | refine es_cons ?_ ?_ | refine row_cons ?_ ?_)
        all_goals (first | (simp; done) | omega | (simp; omega))
      case hstore =>
        repeat' (first | rfl | refine env_cons ?_ ?_ | refine st_cons ?_ ?_ ?_ ?_ | refine int_eq ?_ | refine bool_eq ?_ | refine rsl_eq ?_ | refine osl_eq ?_ | refine sl_eq ?_ ?_ ?_ | refine ptr_eq ?_ ?_ ?_ | refine agg_eq ?_ | refine es_cons ?_ ?_ | refine row_cons ?_ ?_)
        all_goals (first | (simp; done) | omega | (simp; omega))
      case hst =>
        first | trivial | omega | (simp; done) | (simp; omega)
    rintro mm ee ss kk ⟨k, g2, v2, g3, v3, g, v, rfl, rfl, rfl, hI⟩
    generalize hQl2 : thenQ _ _ = Ql2
    refine AW.seq fun K11 hK11 => ?_
    -- region 8
    refine AW.regionK 0 (fun _ => none) [2, 3, 32, 33, 34] [2, 3, 11] ?_
    simp only [go_sem, reduceIte, reduceCtorEq, Nat.reduceAdd, Nat.reduceMul, Nat.reduceEqDiff, Nat.reduceLT, Nat.reduceLeDiff, Nat.reduceSub, Nat.reducePow, Nat.reduceBEq, Int.reduceToNat, List.reduceReplicate, htl, hlen, renC_tabO]
    repeat with_reducible refine cj ?_ ?_
    all_goals try first | omega
    refine hK11 _ _ _ ?_; clear hK11
    refine AW.seq fun K12 hK12 => ?_
    -- cond 2
    refine AW.cond rfl (by simp only [go_sem, reduceIte, reduceCtorEq, Nat.reduceAdd, Nat.reduceMul, Nat.reduceEqDiff, Nat.reduceLT, Nat.reduceLeDiff, Nat.reduceSub, Nat.reducePow, Nat.reduceBEq, Int.reduceToNat, List.reduceReplicate]) ?_ ?_
    · intro hb
      try simp only [hB, decide_eq_true_eq, decide_eq_false_iff_not] at hb
      refine AW.skip ?_
      refine hK12 _ _ _ ?_; clear hK12
      refine AW.seq fun K13 hK13 => ?_
      refine AW.block ?_
      refine AW.seq fun K14 hK14 => ?_
      -- region 9
      refine AW.regionK 0 (fun _ => none) [2, 3, 6, 32, 33] [2, 3, 11] ?_
      simp only [go_sem, reduceIte, reduceCtorEq, Nat.reduceAdd, Nat.reduceMul, Nat.reduceEqDiff, Nat.reduceLT, Nat.reduceLeDiff, Nat.reduceSub, Nat.reducePow, Nat.reduceBEq, Int.reduceToNat, List.reduceReplicate, htl, hlen, renC_tabO]
      repeat with_reducible refine cj ?_ ?_
      all_goals try first | omega
      refine hK14 _ _ _ ?_; clear hK14
      refine AW.seq fun K15 hK15 => ?_
      -- region 10
      refine AW.regionK 0 (fun _ => none) [2, 3, 6, 32, 33, 38, 39] [2, 3, 11] ?_
      simp only [go_sem, reduceIte, reduceCtorEq, Nat.reduceAdd, Nat.reduceMul, Nat.reduceEqDiff, Nat.reduceLT, Nat.reduceLeDiff, Nat.reduceSub, Nat.reducePow, Nat.reduceBEq, Int.reduceToNat, List.reduceReplicate, htl, hlen, renC_tabO]
      repeat with_reducible refine cj ?_ ?_
      all_goals try first | omega
      refine hK15 _ _ _ ?_; clear hK15
      refine AW.block ?_
      -- loop 3
      refine AW.loopE (fun mm ee ss kk => ∃ (q g2 v2 g3 v3 g v : Nat), i - q = mm ∧ ee = [(2, .ptr ⟨2, g2, none⟩ 0 0), (3, .ptr ⟨3, g3, none⟩ 0 0), (6, .int .i64 (k : Nat)), (32, .int .i64 i), (33, .int .i64 (k : Nat)), (38, .int .i64 i), (39, .int .i64 (q : Nat))] ∧ ss = [(2, some ⟨g2, v2, 1, [[.nilsl]]⟩), (3, some ⟨g3, v3, 1, [[.sl ⟨11, g, none⟩ 0 i none]]⟩), (11, some ⟨g, v, 2, tabO (iter (warshI k) q (iter (warshK i) k t))⟩)] ∧ (q ≤ i)) ?_ ?_
      · refine ⟨_, 0, ?_, ?_, ?_, ?_, ?_, ?_, rfl, ?henv, ?hstore, ?hst⟩
        case henv =>
          repeat' (first | rfl | refine env_cons ?_ ?_ | refine st_cons ?_ ?_ ?_ ?_ | refine int_eq ?_ | refine bool_eq ?_ | refine rsl_eq ?_ | refine osl_eq ?_ | refine sl_eq ?_ ?_ ?_ | refine ptr_eq ?_ ?_ ?_ | refine agg_eq ?_ | refine es_cons ?_ ?_ | refine row_cons ?_ ?_)
          all_goals (first | (simp; done) | omega | (simp; omega))
        case hstore =>
          repeat' (first | rfl | refine env_cons ?_ ?_ | refine st_cons ?_ ?_ ?_ ?_ | refine int_eq ?_ | refine bool_eq ?_ | refine rsl_eq ?_ | refine osl_eq ?_ | refine sl_eq ?_ ?_ ?_ | refine ptr_eq ?_ ?_ ?_ | refine agg_eq ?_ | refine es_cons ?_ ?_ | refine row_cons ?_ ?_)
          all_goals (first | (simp; done) | omega | (simp; omega))
        case hst =>
          first | trivial | omega | (simp; done) | (simp; omega)
      rintro mm ee ss kk ⟨q, g2, v2, g3, v3, g, v, rfl, rfl, rfl, hI⟩
      generalize hQl3 : thenQ _ _ = Ql3
      refine AW.seq fun K16 hK16 => ?_
      -- region 11
      refine AW.regionK 0 (fun _ => none) [2, 3, 6, 32, 33, 38, 39, 40] [2, 3, 11] ?_
      simp only [go_sem, reduceIte, reduceCtorEq, Nat.reduceAdd, Nat.reduceMul, Nat.reduceEqDiff, Nat.reduceLT, Nat.reduceLeDiff, Nat.reduceSub, Nat.reducePow, Nat.reduceBEq, Int.reduceToNat, List.reduceReplicate, htl, hlen, renC_tabO]
      repeat with_reducible refine cj ?_ ?_
      all_goals try first | omega
      refine hK16 _ _ _ ?_; clear hK16
      refine AW.seq fun K17 hK17 => ?_
      -- cond 3
      refine AW.cond rfl (by simp only [go_sem, reduceIte, reduceCtorEq, Nat.reduceAdd, Nat.reduceMul, Nat.reduceEqDiff, Nat.reduceLT, Nat.reduceLeDiff, Nat.reduceSub, Nat.reducePow, Nat.reduceBEq, Int.reduceToNat, List.reduceReplicate]) ?_ ?_
      · intro hb
        try simp only [hB, decide_eq_true_eq, decide_eq_false_iff_not] at hb
        have hsu : Sq i (iter (warshI k) q (iter (warshK i) k t)) := (hs.warsh' (by omega)).warshK' (by omega) (by omega)
        have hus : iter (warshI k) (q + 1) (iter (warshK i) k t) = warshI k q (iter (warshI k) q (iter (warshK i) k t)) := rfl
        rw [warshI_eq] at hus
        generalize hU : iter (warshI k) q (iter (warshK i) k t) = U at *
        have hhr := Reads.flat (rhas_r i U hsu hn q k (by omega) (by omega)) rfl
        have hto := tabO_len U
        have hsl := hsu.len
        have htk : (tabO U).take i = tabO U := List.take_of_length_le (by omega)
        have hgq := tabO_get (t := U) (i := q) (by omega)
        have hgk := tabO_get (t := U) (i := k) (by omega)
        have hrq := hsu.rowLen (i := q) (by omega)
        have hrk := hsu.rowLen (i := k) (by omega)
        have hwq := setW_len' (rowT U q)
        have hwk := setW_len' (rowT U k)
        rw [hrq] at hwq
        rw [hrk] at hwk
        have hm := fun g v => merge_s i U hsu hn q k (by omega) (by omega) g v none none
        refine AW.skip ?_
        refine hK17 _ _ _ ?_; clear hK17
        refine AW.seq fun K18 hK18 => ?_
        refine AW.block ?_
        refine AW.seq fun K19 hK19 => ?_
        -- region 12
        refine AW.regionK 0 (fun _ => none) [2, 3, 6, 7, 32, 33, 38, 39] [2, 3, 11] ?_
        simp only [go_sem, reduceIte, reduceCtorEq, Nat.reduceAdd, Nat.reduceMul, Nat.reduceEqDiff, Nat.reduceLT, Nat.reduceLeDiff, Nat.reduceSub, Nat.reducePow, Nat.reduceBEq, Int.reduceToNat, List.reduceReplicate, htl, hlen, renC_tabO]
        repeat with_reducible refine cj ?_ ?_
        all_goals try first | omega
        refine hK19 _ _ _ ?_; clear hK19
        refine AW.seq fun K20 hK20 => ?_
        -- region 13
        refine AW.regionK 0 (fun ii => if ii = 3 then some (.reads true (.bool (atT U q k))) else none) [2, 3, 6, 7, 32, 33, 38, 39, 45] [2, 3, 11] ?_
        simp only [go_sem, reduceIte, reduceCtorEq, Nat.reduceAdd, Nat.reduceMul, Nat.reduceEqDiff, Nat.reduceLT, Nat.reduceLeDiff, Nat.reduceSub, Nat.reducePow, Nat.reduceBEq, Int.reduceToNat, List.reduceReplicate, htl, hlen, renC_tabO, htk, vwc_tabO]
        repeat with_reducible refine cj ?_ ?_
        all_goals try first | (exact hhr) | omega | exact ent (by kernel_rfl)
        refine hK20 _ _ _ ?_; clear hK20
        -- cond 4
        refine AW.cond rfl (by simp only [go_sem, reduceIte, reduceCtorEq, Nat.reduceAdd, Nat.reduceMul, Nat.reduceEqDiff, Nat.reduceLT, Nat.reduceLeDiff, Nat.reduceSub, Nat.reducePow, Nat.reduceBEq, Int.reduceToNat, List.reduceReplicate]) ?_ ?_
        · intro hb
          try simp only [hB, decide_eq_true_eq, decide_eq_false_iff_not] at hb
          rw [if_pos hb] at hus
          unfold orRow at hus
          -- region 14
          refine AW.regionD mixed 0 (fun ii => if ii = 10 then some (.upd [11] (fun kk => [(0, some ⟨g, kk, 2, tabO (U.set q (List.zipWith (· || ·) (rowT U q) (rowT U k)))⟩)]) (fun _ => .tup [])) else none) [2, 3, 6, 32, 33, 38, 39] [2, 3, 11] ?_
          simp only [go_sem, reduceIte, reduceCtorEq, Nat.reduceAdd, Nat.reduceMul, Nat.reduceEqDiff, Nat.reduceLT, Nat.reduceLeDiff, Nat.reduceSub, Nat.reducePow, Nat.reduceBEq, Int.reduceToNat, List.reduceReplicate, htl, hlen, renC_tabO, hgq, hgk, rowO, hrq, hrk, hwq, hwk, renC_tabO]
          repeat with_reducible refine cj ?_ ?_
          all_goals try first | (exact hm _ _) | omega | exact chk (by kernel_rfl) | exact ent (by kernel_rfl)
          refine hK18 _ _ _ ?_; clear hK18
          -- region 15
          refine AW.regionK 0 (fun _ => none) [2, 3, 6, 32, 33, 38, 39] [2, 3, 11] ?_
          simp only [go_sem, reduceIte, reduceCtorEq, Nat.reduceAdd, Nat.reduceMul, Nat.reduceEqDiff, Nat.reduceLT, Nat.reduceLeDiff, Nat.reduceSub, Nat.reducePow, Nat.reduceBEq, Int.reduceToNat, List.reduceReplicate, htl, hlen, renC_tabO]
          repeat with_reducible refine cj ?_ ?_
          all_goals try first | omega
          rw [← hQl3]
          change Exists _
          refine ⟨_, ?hm, q + 1, ?_, ?_, ?_, ?_, ?_, ?_, rfl, ?henv, ?hstore, ?hst⟩
          case henv =>
            repeat' (first | rfl | refine env_cons ?_ ?_ | refine st_cons ?_ ?_ ?_ ?_ | refine int_eq ?_ | refine bool_eq ?_ | refine rsl_eq ?_ | refine osl_eq ?_ | refine sl_eq ?_ ?_ ?_ | refine ptr_eq ?_ ?_ ?_ | refine agg_eq ?_ | refine es_cons ?_ ?_ | refine row_cons ?_ ?_)
            all_goals (first | (simp; done) | omega | (simp; omega))
          case hstore =>
            repeat' (first | rfl | refine env_cons ?_ ?_ | refine st_cons ?_ ?_ ?_ ?_ | refine int_eq ?_ | refine bool_eq ?_ | refine rsl_eq ?_ | refine osl_eq ?_ | refine sl_eq ?_ ?_ ?_ | refine ptr_eq ?_ ?_ ?_ | refine agg_eq ?_ | refine es_cons ?_ ?_ | refine row_cons ?_ ?_)
            all_goals (rw [hus])
          case hst =>
            first | trivial | omega | (simp; done) | (simp; omega)
          case hm => omega
        · intro hb
          try simp only [hB, decide_eq_true_eq, decide_eq_false_iff_not] at hb
          rw [if_neg (by rw [hb]; simp)] at hus
          refine AW.skip ?_
          refine hK18 _ _ _ ?_; clear hK18
          -- region 15
          refine AW.regionK 0 (fun _ => none) [2, 3, 6, 32, 33, 38, 39] [2, 3, 11] ?_
          simp only [go_sem, reduceIte, reduceCtorEq, Nat.reduceAdd, Nat.reduceMul, Nat.reduceEqDiff, Nat.reduceLT, Nat.reduceLeDiff, Nat.reduceSub, Nat.reducePow, Nat.reduceBEq, Int.reduceToNat, List.reduceReplicate, htl, hlen, renC_tabO]
          repeat with_reducible refine cj ?_ ?_
          all_goals try first | omega
          rw [← hQl3]
          change Exists _
          refine ⟨_, ?hm, q + 1, ?_, ?_, ?_, ?_, ?_, ?_, rfl, ?henv, ?hstore, ?hst⟩
          case henv =>
            repeat' (first | rfl | refine env_cons ?_ ?_ | refine st_cons ?_ ?_ ?_ ?_ | refine int_eq ?_ | refine bool_eq ?_ | refine rsl_eq ?_ | refine osl_eq ?_ | refine sl_eq ?_ ?_ ?_ | refine ptr_eq ?_ ?_ ?_ | refine agg_eq ?_ | refine es_cons ?_ ?_ | refine row_cons ?_ ?_)
            all_goals (first | (simp; done) | omega | (simp; omega))
          case hstore =>
            repeat' (first | rfl | refine env_cons ?_ ?_ | refine st_cons ?_ ?_ ?_ ?_ | refine int_eq ?_ | refine bool_eq ?_ | refine rsl_eq ?_ | refine osl_eq ?_ | refine sl_eq ?_ ?_ ?_ | refine ptr_eq ?_ ?_ ?_ | refine agg_eq ?_ | refine es_cons ?_ ?_ | refine row_cons ?_ ?_)
            all_goals (rw [hus])
          case hst =>
            first | trivial | omega | (simp; done) | (simp; omega)
          case hm => omega
      · intro hb
        try simp only [hB, decide_eq_true_eq, decide_eq_false_iff_not] at hb
        have hq : q = i := by omega
        subst hq
        refine AW.keep [2, 3, 32, 33] [2, 3, 11] ?_
        try simp only [go_sem, reduceIte, reduceCtorEq, Nat.reduceAdd, Nat.reduceMul, Nat.reduceEqDiff, Nat.reduceLT, Nat.reduceLeDiff, Nat.reduceSub, Nat.reducePow, Nat.reduceBEq, Int.reduceToNat, List.reduceReplicate]
        refine AW.exit ?_
        rw [← hQl3]
        refine hK13 _ _ _ ?_; clear hK13
        -- region 16
        refine AW.regionK 0 (fun _ => none) [2, 3, 32, 33] [2, 3, 11] ?_
        simp only [go_sem, reduceIte, reduceCtorEq, Nat.reduceAdd, Nat.reduceMul, Nat.reduceEqDiff, Nat.reduceLT, Nat.reduceLeDiff, Nat.reduceSub, Nat.reducePow, Nat.reduceBEq, Int.reduceToNat, List.reduceReplicate, htl, hlen, renC_tabO]
        repeat with_reducible refine cj ?_ ?_
        all_goals try first | omega
        rw [← hQl2]
        change Exists _
        refine ⟨_, ?hm, k + 1, ?_, ?_, ?_, ?_, ?_, ?_, rfl, ?henv, ?hstore, ?hst⟩
        case henv =>
          repeat' (first | rfl | refine env_cons ?_ ?_ | refine st_cons ?_ ?_ ?_ ?_ | refine int_eq ?_ | refine bool_eq ?_ | refine rsl_eq ?_ | refine osl_eq ?_ | refine sl_eq ?_ ?_ ?_ | refine ptr_eq ?_ ?_ ?_ | refine agg_eq ?_ | refine es_cons ?_ ?_ | refine row_cons ?_ ?_)
          all_goals (first | (simp; done) | omega | (simp; omega))
        case hstore =>
          repeat' (first | rfl | refine env_cons ?_ ?_ | refine st_cons ?_ ?_ ?_ ?_ | refine int_eq ?_ | refine bool_eq ?_ | refine rsl_eq ?_ | refine osl_eq ?_ | refine sl_eq ?_ ?_ ?_ | refine ptr_eq ?_ ?_ ?_ | refine agg_eq ?_ | refine es_cons ?_ ?_ | refine row_cons ?_ ?_)
          all_goals rfl
        case hst =>
          first | trivial | omega | (simp; done) | (simp; omega)
        case hm => omega
    · intro hb
      try simp only [hB, decide_eq_true_eq, decide_eq_false_iff_not] at hb
      refine AW.keep [2, 3] [2, 3, 11] ?_
      try simp only [go_sem, reduceIte, reduceCtorEq, Nat.reduceAdd, Nat.reduceMul, Nat.reduceEqDiff, Nat.reduceLT, Nat.reduceLeDiff, Nat.reduceSub, Nat.reducePow, Nat.reduceBEq, Int.reduceToNat, List.reduceReplicate]
      refine AW.exit ?_
      rw [← hQl2]
      refine hK9 _ _ _ ?_; clear hK9
      refine AW.seq fun K21 hK21 => ?_
      -- region 17
      refine AW.regionK 0 (fun _ => none) [2] [2, 11] ?_
      simp only [go_sem, reduceIte, reduceCtorEq, Nat.reduceAdd, Nat.reduceMul, Nat.reduceEqDiff, Nat.reduceLT, Nat.reduceLeDiff, Nat.reduceSub, Nat.reducePow, Nat.reduceBEq, Int.reduceToNat, List.reduceReplicate, htl, hlen, renC_tabO]
      repeat with_reducible refine cj ?_ ?_
      all_goals try first | omega
      refine hK21 _ _ _ ?_; clear hK21
      refine AW.ret ?_
      rw [← hQr]
      simp only [go_sem, reduceIte, reduceCtorEq, Nat.reduceAdd, Nat.reduceMul, Nat.reduceEqDiff, Nat.reduceLT, Nat.reduceLeDiff, Nat.reduceSub, Nat.reducePow, Nat.reduceBEq, Int.reduceToNat, List.reduceReplicate, htl, hlen, renC_tabO]
      have hk : k = i := by omega
      subst hk
      refine Wk.of_eq ?_
      rw [List.take_of_length_le (by rw [tabO_len, (hs.warsh' (Nat.le_refl _)).len]; exact Nat.le_refl _), vwcF_tabO]
      rfl
theorem compose_r (n : Nat) (a b : List (List Bool)) (ha : Sq n a) (hb0 : Sq n b) (hn : n ≤ 512) : Reads Try.prog 53 true [relB a, relB b] (relB (compT n a b)) := by
  have hla := ha.len
  have hlb := hb0.len
  have htla := tabR_len a
  have htlb := tabR_len b
  have hemp := empty_u n hn
  have hwn := wordsN_rng (n := (n : Int)) (by omega)
  have hh := fun i j hi hj => rhas_r n a ha hn i j hi hj
  unfold relB at *
  refine Reads.bodyF (rs := [.cell 4 24]) Try.func53 rfl Try.ntmps53 rfl (by simp) ?_
  generalize hQr : retQ _ _ _ = Qr
  refine AW.seq fun K1 hK1 => ?_
  -- region 0
  refine AW.regionK 0 (fun _ => none) [2, 3, 4] [2, 3, 4] ?_
  simp only [go_sem, reduceIte, reduceCtorEq, Nat.reduceAdd, Nat.reduceMul, Nat.reduceEqDiff, Nat.reduceLT, Nat.reduceLeDiff, Nat.reduceSub, Nat.reducePow, Nat.reduceBEq, Int.reduceToNat, List.reduceReplicate, htla, hla, htlb, hlb, renC_tabO]
  repeat with_reducible refine cj ?_ ?_
  all_goals try first | omega
  refine hK1 _ _ _ ?_; clear hK1
  refine AW.seq fun K2 hK2 => ?_
  -- region 1
  refine AW.regionK 0 (fun ii => if ii = 3 then some (.upd [] (fun k => [(0, some ⟨k, k, 2, tabO (List.replicate n (List.replicate n false))⟩)]) (fun k => .agg [.sl ⟨0, k, none⟩ 0 n none])) else none) [2, 3, 4, 5] [2, 3, 4, 5, 11] ?_
  simp only [go_sem, reduceIte, reduceCtorEq, Nat.reduceAdd, Nat.reduceMul, Nat.reduceEqDiff, Nat.reduceLT, Nat.reduceLeDiff, Nat.reduceSub, Nat.reducePow, Nat.reduceBEq, Int.reduceToNat, List.reduceReplicate, htla, hla, htlb, hlb, renC_tabO]
  repeat with_reducible refine cj ?_ ?_
  all_goals try first | (exact hemp) | omega | exact ent (by kernel_rfl)
  refine hK2 _ _ _ ?_; clear hK2
  refine AW.seq fun K3 hK3 => ?_
  refine AW.seq fun K4 hK4 => ?_
  -- region 2
  refine AW.regionK 0 (fun _ => none) [2, 3, 4, 5, 14, 15] [2, 3, 4, 5, 11] ?_
  simp only [go_sem, reduceIte, reduceCtorEq, Nat.reduceAdd, Nat.reduceMul, Nat.reduceEqDiff, Nat.reduceLT, Nat.reduceLeDiff, Nat.reduceSub, Nat.reducePow, Nat.reduceBEq, Int.reduceToNat, List.reduceReplicate, htla, hla, htlb, hlb, renC_tabO]
  repeat with_reducible refine cj ?_ ?_
  all_goals try first | omega
  refine hK4 _ _ _ ?_; clear hK4
  refine AW.block ?_
  -- loop 1
  refine AW.loopE (fun mm ee ss kk => ∃ (i g2 v2 g3 v3 g4 v4 g5 v5 g v : Nat), n - i = mm ∧ ee = [(2, .ptr ⟨2, g2, none⟩ 0 0), (3, .ptr ⟨3, g3, none⟩ 0 0), (4, .ptr ⟨4, g4, none⟩ 0 0), (5, .ptr ⟨5, g5, none⟩ 0 0), (14, .int .i64 n), (15, .int .i64 (i : Nat))] ∧ ss = [(2, some ⟨g2, v2, 1, [[.rsl 2 (tabR a)]]⟩), (3, some ⟨g3, v3, 1, [[.rsl 2 (tabR b)]]⟩), (4, some ⟨g4, v4, 1, [[.nilsl]]⟩), (5, some ⟨g5, v5, 1, [[.sl ⟨11, g, none⟩ 0 n none]]⟩), (11, some ⟨g, v, 2, tabO (iter (fun i t => iter (compI a b i) n t) i (zeroT n))⟩)] ∧ (i ≤ n)) ?_ ?_
  · refine ⟨_, 0, ?_, ?_, ?_, ?_, ?_, ?_, ?_, ?_, ?_, ?_, rfl, ?henv, ?hstore, ?hst⟩
    case henv =>
      repeat' (first | rfl | refine env_cons ?_ ?_ | refine st_cons ?_ ?_ ?_ ?_ | refine int_eq ?_ | refine bool_eq ?_ | refine rsl_eq ?_ | refine osl_eq ?_ | refine sl_eq ?_ ?_ ?_ | refine ptr_eq ?_ ?_ ?_ | refine agg_eq ?_ | refine es_cons ?_ ?_ | refine row_cons ?_ ?_)
      all_goals (first | (simp; done) | omega | (simp; omega))
    case hstore =>
      repeat' (first | rfl | refine env_cons ?_ ?_ | refine st_cons ?_ ?_ ?_ ?_ | refine int_eq ?_ | refine bool_eq ?_ | refine rsl_eq ?_ | refine osl_eq ?_ | refine sl_eq ?_ ?_ ?_ | refine ptr_eq ?_ ?_ ?_ | refine agg_eq ?_ | refine es_cons ?_ ?_ | refine row_cons ?_ ?_)
      all_goals (first | (simp; done) | omega | (simp; omega))
    case hst =>
      first | trivial | omega | (simp; done) | (simp; omega)
  rintro mm ee ss kk ⟨i, g2, v2, g3, v3, g4, v4, g5, v5, g, v, rfl, rfl, rfl, hI⟩
  generalize hQl1 : thenQ _ _ = Ql1
  refine AW.seq fun K5 hK5 => ?_
  -- region 3
  refine AW.regionK 0 (fun _ => none) [2, 3, 4, 5, 14, 15, 16] [2, 3, 4, 5, 11] ?_
  simp only [go_sem, reduceIte, reduceCtorEq, Nat.reduceAdd, Nat.reduceMul, Nat.reduceEqDiff, Nat.reduceLT, Nat.reduceLeDiff, Nat.reduceSub, Nat.reducePow, Nat.reduceBEq, Int.reduceToNat, List.reduceReplicate, htla, hla, htlb, hlb, renC_tabO]
  repeat with_reducible refine cj ?_ ?_
  all_goals try first | omega
  refine hK5 _ _ _ ?_; clear hK5
  refine AW.seq fun K6 hK6 => ?_
  -- cond 1
  refine AW.cond rfl (by simp only [go_sem, reduceIte, reduceCtorEq, Nat.reduceAdd, Nat.reduceMul, Nat.reduceEqDiff, Nat.reduceLT, Nat.reduceLeDiff, Nat.reduceSub, Nat.reducePow, Nat.reduceBEq, Int.reduceToNat, List.reduceReplicate]) ?_ ?_
  · intro hb
    try simp only [hB, decide_eq_true_eq, decide_eq_false_iff_not] at hb
    refine AW.skip ?_
    refine hK6 _ _ _ ?_; clear hK6
    refine AW.seq fun K7 hK7 => ?_
    refine AW.block ?_
    refine AW.seq fun K8 hK8 => ?_
    -- region 4
    refine AW.regionK 0 (fun _ => none) [2, 3, 4, 5, 6, 14, 15] [2, 3, 4, 5, 11] ?_
    simp only [go_sem, reduceIte, reduceCtorEq, Nat.reduceAdd, Nat.reduceMul, Nat.reduceEqDiff, Nat.reduceLT, Nat.reduceLeDiff, Nat.reduceSub, Nat.reducePow, Nat.reduceBEq, Int.reduceToNat, List.reduceReplicate, htla, hla, htlb, hlb, renC_tabO]
    repeat with_reducible refine cj ?_ ?_
    all_goals try first | omega
    refine hK8 _ _ _ ?_; clear hK8
    refine AW.seq fun K9 hK9 => ?_
    -- region 5
    refine AW.regionK 0 (fun _ => none) [2, 3, 4, 5, 6, 14, 15, 20, 21] [2, 3, 4, 5, 11] ?_
    simp only [go_sem, reduceIte, reduceCtorEq, Nat.reduceAdd, Nat.reduceMul, Nat.reduceEqDiff, Nat.reduceLT, Nat.reduceLeDiff, Nat.reduceSub, Nat.reducePow, Nat.reduceBEq, Int.reduceToNat, List.reduceReplicate, htla, hla, htlb, hlb, renC_tabO]
    repeat with_reducible refine cj ?_ ?_
    all_goals try first | omega
    refine hK9 _ _ _ ?_; clear hK9
    refine AW.block ?_
    -- loop 2
    refine AW.loopE (fun mm ee ss kk => ∃ (q g2 v2 g3 v3 g4 v4 g5 v5 g v : Nat), n - q = mm ∧ ee = [(2, .ptr ⟨2, g2, none⟩ 0 0), (3, .ptr ⟨3, g3, none⟩ 0 0), (4, .ptr ⟨4, g4, none⟩ 0 0), (5, .ptr ⟨5, g5, none⟩ 0 0), (6, .int .i64 (i : Nat)), (14, .int .i64 n), (15, .int .i64 (i : Nat)), (20, .int .i64 n), (21, .int .i64 (q : Nat))] ∧ ss = [(2, some ⟨g2, v2, 1, [[.rsl 2 (tabR a)]]⟩), (3, some ⟨g3, v3, 1, [[.rsl 2 (tabR b)]]⟩), (4, some ⟨g4, v4, 1, [[.nilsl]]⟩), (5, some ⟨g5, v5, 1, [[.sl ⟨11, g, none⟩ 0 n none]]⟩), (11, some ⟨g, v, 2, tabO (iter (compI a b i) q (iter (fun i t => iter (compI a b i) n t) i (zeroT n)))⟩)] ∧ (q ≤ n)) ?_ ?_
    · refine ⟨_, 0, ?_, ?_, ?_, ?_, ?_, ?_, ?_, ?_, ?_, ?_, rfl, ?henv, ?hstore, ?hst⟩
      case henv =>
        repeat' (first | rfl | refine env_cons ?_ ?_ | refine st_cons ?_ ?_ ?_ ?_ | refine int_eq ?_ | refine bool_eq ?_ | refine rsl_eq ?_ | refine osl_eq ?_ | refine sl_eq ?_ ?_ ?_ | refine ptr_eq ?_ ?_ ?_ | refine agg_eq ?_ | refine es_cons ?_ ?_ | refine row_cons ?_ ?_)
        all_goals (first | (simp; done) | omega | (simp; omega))
      case hstore =>
        repeat' (first | rfl | refine env_cons ?_ ?_ | refine st_cons ?_ ?_ ?_ ?_ | refine int_eq ?_ | refine bool_eq ?_ | refine rsl_eq ?_ | refine osl_eq ?_ | refine sl_eq ?_ ?_ ?_ | refine ptr_eq ?_ ?_ ?_ | refine agg_eq ?_ | refine es_cons ?_ ?_ | refine row_cons ?_ ?_)
        all_goals (first | (simp; done) | omega | (simp; omega))
      case hst =>
        first | trivial | omega | (simp; done) | (simp; omega)
    rintro mm ee ss kk ⟨q, g2, v2, g3, v3, g4, v4, g5, v5, g, v, rfl, rfl, rfl, hI⟩
    generalize hQl2 : thenQ _ _ = Ql2
    refine AW.seq fun K10 hK10 => ?_
    -- region 6
    refine AW.regionK 0 (fun _ => none) [2, 3, 4, 5, 6, 14, 15, 20, 21, 22] [2, 3, 4, 5, 11] ?_
    simp only [go_sem, reduceIte, reduceCtorEq, Nat.reduceAdd, Nat.reduceMul, Nat.reduceEqDiff, Nat.reduceLT, Nat.reduceLeDiff, Nat.reduceSub, Nat.reducePow, Nat.reduceBEq, Int.reduceToNat, List.reduceReplicate, htla, hla, htlb, hlb, renC_tabO]
    repeat with_reducible refine cj ?_ ?_
    all_goals try first | omega
    refine hK10 _ _ _ ?_; clear hK10
    refine AW.seq fun K11 hK11 => ?_
    -- cond 2
    refine AW.cond rfl (by simp only [go_sem, reduceIte, reduceCtorEq, Nat.reduceAdd, Nat.reduceMul, Nat.reduceEqDiff, Nat.reduceLT, Nat.reduceLeDiff, Nat.reduceSub, Nat.reducePow, Nat.reduceBEq, Int.reduceToNat, List.reduceReplicate]) ?_ ?_
    · intro hb
      try simp only [hB, decide_eq_true_eq, decide_eq_false_iff_not] at hb
      have hsu : Sq n (iter (compI a b i) q (iter (fun i t => iter (compI a b i) n t) i (zeroT n))) := Sq.compK hb0 (Sq.comp' hb0 (by omega)) (by omega) (by omega)
      have hus : iter (compI a b i) (q + 1) (iter (fun i t => iter (compI a b i) n t) i (zeroT n)) = compI a b i q (iter (compI a b i) q (iter (fun i t => iter (compI a b i) n t) i (zeroT n))) := rfl
      rw [compI_eq] at hus
      generalize hU : iter (compI a b i) q (iter (fun i t => iter (compI a b i) n t) i (zeroT n)) = U at *
      have hhr := hh i q (by omega) (by omega)
      have hto := tabO_len U
      have hsl := hsu.len
      have hgq := tabO_get (t := U) (i := i) (by omega)
      have hgk := tabR_get (t := b) (i := q) (by omega)
      have hrq := hsu.rowLen (i := i) (by omega)
      have hrk := hb0.rowLen (i := q) (by omega)
      have hwq := setW_len' (rowT U i)
      rw [hrq] at hwq
      have hm := fun g v => merge_p n U hsu hn i (by omega) (rowT b q) hrk g v none
      unfold rowB at hm
      rw [hrk] at hm
      refine AW.skip ?_
      refine hK11 _ _ _ ?_; clear hK11
      refine AW.seq fun K12 hK12 => ?_
      refine AW.block ?_
      refine AW.seq fun K13 hK13 => ?_
      -- region 7
      refine AW.regionK 0 (fun _ => none) [2, 3, 4, 5, 6, 7, 14, 15, 20, 21] [2, 3, 4, 5, 11] ?_
      simp only [go_sem, reduceIte, reduceCtorEq, Nat.reduceAdd, Nat.reduceMul, Nat.reduceEqDiff, Nat.reduceLT, Nat.reduceLeDiff, Nat.reduceSub, Nat.reducePow, Nat.reduceBEq, Int.reduceToNat, List.reduceReplicate, htla, hla, htlb, hlb, renC_tabO]
      repeat with_reducible refine cj ?_ ?_
      all_goals try first | omega
      refine hK13 _ _ _ ?_; clear hK13
      refine AW.seq fun K14 hK14 => ?_
      -- region 8
      refine AW.regionK 0 (fun ii => if ii = 3 then some (.reads false (.bool (atT a i q))) else none) [2, 3, 4, 5, 6, 7, 14, 15, 20, 21, 27] [2, 3, 4, 5, 11] ?_
      simp only [go_sem, reduceIte, reduceCtorEq, Nat.reduceAdd, Nat.reduceMul, Nat.reduceEqDiff, Nat.reduceLT, Nat.reduceLeDiff, Nat.reduceSub, Nat.reducePow, Nat.reduceBEq, Int.reduceToNat, List.reduceReplicate, htla, hla, htlb, hlb, renC_tabO]
      repeat with_reducible refine cj ?_ ?_
      all_goals try first | (exact hhr) | omega | exact ent (by kernel_rfl)
      refine hK14 _ _ _ ?_; clear hK14
      -- cond 3
      refine AW.cond rfl (by simp only [go_sem, reduceIte, reduceCtorEq, Nat.reduceAdd, Nat.reduceMul, Nat.reduceEqDiff, Nat.reduceLT, Nat.reduceLeDiff, Nat.reduceSub, Nat.reducePow, Nat.reduceBEq, Int.reduceToNat, List.reduceReplicate]) ?_ ?_
      · intro hb
        try simp only [hB, decide_eq_true_eq, decide_eq_false_iff_not] at hb
        rw [if_pos hb] at hus
        unfold orRow at hus
        -- region 9
        refine AW.regionD mixed 0 (fun ii => if ii = 10 then some (.upd [11] (fun kk => [(0, some ⟨g, kk, 2, tabO (U.set i (List.zipWith (· || ·) (rowT U i) (rowT b q)))⟩)]) (fun _ => .tup [])) else none) [2, 3, 4, 5, 6, 14, 15, 20, 21] [2, 3, 4, 5, 11] ?_
        simp only [go_sem, reduceIte, reduceCtorEq, Nat.reduceAdd, Nat.reduceMul, Nat.reduceEqDiff, Nat.reduceLT, Nat.reduceLeDiff, Nat.reduceSub, Nat.reducePow, Nat.reduceBEq, Int.reduceToNat, List.reduceReplicate, htla, hla, htlb, hlb, renC_tabO, hgq, hgk, rowO, rowB, hrq, hrk, hwq, renC_tabO]
        repeat with_reducible refine cj ?_ ?_
        all_goals try first | (exact hm _ _) | omega | exact chk (by kernel_rfl) | exact ent (by kernel_rfl)
        refine hK12 _ _ _ ?_; clear hK12
        -- region 10
        refine AW.regionK 0 (fun _ => none) [2, 3, 4, 5, 6, 14, 15, 20, 21] [2, 3, 4, 5, 11] ?_
        simp only [go_sem, reduceIte, reduceCtorEq, Nat.reduceAdd, Nat.reduceMul, Nat.reduceEqDiff, Nat.reduceLT, Nat.reduceLeDiff, Nat.reduceSub, Nat.reducePow, Nat.reduceBEq, Int.reduceToNat, List.reduceReplicate, htla, hla, htlb, hlb, renC_tabO]
        repeat with_reducible refine cj ?_ ?_
        all_goals try first | omega
        rw [← hQl2]
        change Exists _
        refine ⟨_, ?hm, q + 1, ?_, ?_, ?_, ?_, ?_, ?_, ?_, ?_, ?_, ?_, rfl, ?henv, ?hstore, ?hst⟩
        case henv =>
          repeat' (first | rfl | refine env_cons ?_ ?_ | refine st_cons ?_ ?_ ?_ ?_ | refine int_eq ?_ | refine bool_eq ?_ | refine rsl_eq ?_ | refine osl_eq ?_ | refine sl_eq ?_ ?_ ?_ | refine ptr_eq ?_ ?_ ?_ | refine agg_eq ?_ | refine es_cons ?_ ?_ | refine row_cons ?_ ?_)
          all_goals (first | (simp; done) | omega | (simp; omega))
        case hstore =>
          repeat' (first | rfl | refine env_cons ?_ ?_ | refine st_cons ?_ ?_ ?_ ?_ | refine int_eq ?_ | refine bool_eq ?_ | refine rsl_eq ?_ | refine osl_eq ?_ | refine sl_eq ?_ ?_ ?_ | refine ptr_eq ?_ ?_ ?_ | refine agg_eq ?_ | refine es_cons ?_ ?_ | refine row_cons ?_ ?_)
          all_goals (rw [hus])
        case hst =>
          first | trivial | omega | (simp; done) | (simp; omega)
        case hm => omega
      · intro hb
        try simp only [hB, decide_eq_true_eq, decide_eq_false_iff_not] at hb
        rw [if_neg (by rw [hb]; simp)] at hus
        refine AW.skip ?_
        refine hK12 _ _ _ ?_; clear hK12
        -- region 10
        refine AW.regionK 0 (fun _ => none) [2, 3, 4, 5, 6, 14, 15, 20, 21] [2, 3, 4, 5, 11] ?_
        simp only [go_sem, reduceIte, reduceCtorEq, Nat.reduceAdd, Nat.reduceMul, Nat.reduceEqDiff, Nat.reduceLT, Nat.reduceLeDiff, Nat.reduceSub, Nat.reducePow, Nat.reduceBEq, Int.reduceToNat, List.reduceReplicate, htla, hla, htlb, hlb, renC_tabO]
        repeat with_reducible refine cj ?_ ?_
        all_goals try first | omega
        rw [← hQl2]
        change Exists _
        refine ⟨_, ?hm, q + 1, ?_, ?_, ?_, ?_, ?_, ?_, ?_, ?_, ?_, ?_, rfl, ?henv, ?hstore, ?hst⟩
        case henv =>
          repeat' (first | rfl | refine env_cons ?_ ?_ | refine st_cons ?_ ?_ ?_ ?_ | refine int_eq ?_ | refine bool_eq ?_ | refine rsl_eq ?_ | refine osl_eq ?_ | refine sl_eq ?_ ?_ ?_ | refine ptr_eq ?_ ?_ ?_ | refine agg_eq ?_ | refine es_cons ?_ ?_ | refine row_cons ?_ ?_)
          all_goals (first | (simp; done) | omega | (simp; omega))
        case hstore =>
          repeat' (first | rfl | refine env_cons ?_ ?_ | refine st_cons ?_ ?_ ?_ ?_ | refine int_eq ?_ | refine bool_eq ?_ | refine rsl_eq ?_ | refine osl_eq ?_ | refine sl_eq ?_ ?_ ?_ | refine ptr_eq ?_ ?_ ?_ | refine agg_eq ?_ | refine es_cons ?_ ?_ | refine row_cons ?_ ?_)
          all_goals (rw [hus])
        case hst =>
          first | trivial | omega | (simp; done) | (simp; omega)
        case hm => omega
    · intro hb
      try simp only [hB, decide_eq_true_eq, decide_eq_false_iff_not] at hb
      have hq : q = n := by omega
      subst hq
      refine AW.keep [2, 3, 4, 5, 14, 15] [2, 3, 4, 5, 11] ?_
      try simp only [go_sem, reduceIte, reduceCtorEq, Nat.reduceAdd, Nat.reduceMul, Nat.reduceEqDiff, Nat.reduceLT, Nat.reduceLeDiff, Nat.reduceSub, Nat.reducePow, Nat.reduceBEq, Int.reduceToNat, List.reduceReplicate]
      refine AW.exit ?_
      rw [← hQl2]
      refine hK7 _ _ _ ?_; clear hK7
      -- region 11
      refine AW.regionK 0 (fun _ => none) [2, 3, 4, 5, 14, 15] [2, 3, 4, 5, 11] ?_
      simp only [go_sem, reduceIte, reduceCtorEq, Nat.reduceAdd, Nat.reduceMul, Nat.reduceEqDiff, Nat.reduceLT, Nat.reduceLeDiff, Nat.reduceSub, Nat.reducePow, Nat.reduceBEq, Int.reduceToNat, List.reduceReplicate, htla, hla, htlb, hlb, renC_tabO]
      repeat with_reducible refine cj ?_ ?_
      all_goals try first | omega
      rw [← hQl1]
      change Exists _
      refine ⟨_, ?hm, i + 1, ?_, ?_, ?_, ?_, ?_, ?_, ?_, ?_, ?_, ?_, rfl, ?henv, ?hstore, ?hst⟩
      case henv =>
        repeat' (first | rfl | refine env_cons ?_ ?_ | refine st_cons ?_ ?_ ?_ ?_ | refine int_eq ?_ | refine bool_eq ?_ | refine rsl_eq ?_ | refine osl_eq ?_ | refine sl_eq ?_ ?_ ?_ | refine ptr_eq ?_ ?_ ?_ | refine agg_eq ?_ | refine es_cons ?_ ?_ | refine row_cons ?_ ?_)
        all_goals (first | (simp; done) | omega | (simp; omega))
      case hstore =>
        repeat' (first | rfl | refine env_cons ?_ ?_ | refine st_cons ?_ ?_ ?_ ?_ | refine int_eq ?_ | refine bool_eq ?_ | refine rsl_eq ?_ | refine osl_eq ?_ | refine sl_eq ?_ ?_ ?_ | refine ptr_eq ?_ ?_ ?_ | refine agg_eq ?_ | refine es_cons ?_ ?_ | refine row_cons ?_ ?_)
        all_goals rfl
      case hst =>
        first | trivial | omega | (simp; done) | (simp; omega)
      case hm => omega
  · intro hb
    try simp only [hB, decide_eq_true_eq, decide_eq_false_iff_not] at hb
    refine AW.keep [4, 5] [4, 5, 11] ?_
    try simp only [go_sem, reduceIte, reduceCtorEq, Nat.reduceAdd, Nat.reduceMul, Nat.reduceEqDiff, Nat.reduceLT, Nat.reduceLeDiff, Nat.reduceSub, Nat.reducePow, Nat.reduceBEq, Int.reduceToNat, List.reduceReplicate]
    refine AW.exit ?_
    rw [← hQl1]
    refine hK3 _ _ _ ?_; clear hK3
    refine AW.seq fun K15 hK15 => ?_
    -- region 12
    refine AW.regionK 0 (fun _ => none) [4] [4, 11] ?_
    simp only [go_sem, reduceIte, reduceCtorEq, Nat.reduceAdd, Nat.reduceMul, Nat.reduceEqDiff, Nat.reduceLT, Nat.reduceLeDiff, Nat.reduceSub, Nat.reducePow, Nat.reduceBEq, Int.reduceToNat, List.reduceReplicate, htla, hla, htlb, hlb, renC_tabO]
    repeat with_reducible refine cj ?_ ?_
    all_goals try first | omega
    refine hK15 _ _ _ ?_; clear hK15
    refine AW.ret ?_
    rw [← hQr]
    simp only [go_sem, reduceIte, reduceCtorEq, Nat.reduceAdd, Nat.reduceMul, Nat.reduceEqDiff, Nat.reduceLT, Nat.reduceLeDiff, Nat.reduceSub, Nat.reducePow, Nat.reduceBEq, Int.reduceToNat, List.reduceReplicate, htla, hla, htlb, hlb, renC_tabO]
    have hk : i = n := by omega
    subst hk
    refine Wk.of_eq ?_
    rw [List.take_of_length_le (by rw [tabO_len, (Sq.comp' hb0 (Nat.le_refl _)).len]; exact Nat.le_refl _), vwcF_tabO]
    rfl
end Go.Proofs.R

namespace Go.Proofs.R
open Go.AM Go
set_option maxRecDepth 100000
set_option maxHeartbeats 1000000
def longR (rs : List USet) : Prop := rs.length ≤ 9223372036854775807 ∧ ∀ x ∈ rs, x.W.length ≤ 9223372036854775807
theorem acyclic_e (rs : List USet) (hl : longR rs) (hv : validR rs = false) : Reads Try.prog 32 false [relV rs] (.bool false) := by
  have h := rvalid_r rs hl.1 hl.2
  rw [hv] at h
  unfold relV at *
  refine Reads.body (rs := [.tmp 2]) Try.func32 rfl Try.ntmps32 rfl (by simp) ?_
  generalize hQr : retQ _ _ _ = Qr
  refine AW.seq fun K1 hK1 => ?_
  -- region 0
  refine AW.regionK 0 (fun _ => none) [1] [1] ?_
  simp only [go_sem, reduceIte, reduceCtorEq, Nat.reduceAdd, Nat.reduceMul, Nat.reduceEqDiff, Nat.reduceLT, Nat.reduceLeDiff, Nat.reduceSub, Nat.reducePow, Nat.reduceBEq, Int.reduceToNat, List.reduceReplicate]
  repeat with_reducible refine cj ?_ ?_
  all_goals try first | omega
  refine hK1 _ _ _ ?_; clear hK1
  refine AW.seq fun K2 hK2 => ?_
  refine AW.seq fun K3 hK3 => ?_
  -- region 1
  refine AW.regionK 0 (fun ii => if ii = 1 then some (.reads false (.bool false)) else none) [1, 7] [1] ?_
  simp only [go_sem, reduceIte, reduceCtorEq, Nat.reduceAdd, Nat.reduceMul, Nat.reduceEqDiff, Nat.reduceLT, Nat.reduceLeDiff, Nat.reduceSub, Nat.reducePow, Nat.reduceBEq, Int.reduceToNat, List.reduceReplicate]
  repeat with_reducible refine cj ?_ ?_
  all_goals try first | (exact h) | omega | exact ent (by kernel_rfl)
  refine hK3 _ _ _ ?_; clear hK3
  -- cond 1
  refine AW.cond rfl (by simp only [go_sem, reduceIte, reduceCtorEq, Nat.reduceAdd, Nat.reduceMul, Nat.reduceEqDiff, Nat.reduceLT, Nat.reduceLeDiff, Nat.reduceSub, Nat.reducePow, Nat.reduceBEq, Int.reduceToNat, List.reduceReplicate]) ?_ ?_
  · intro hb
    try simp only [hB, decide_eq_true_eq, decide_eq_false_iff_not] at hb
    refine AW.seq fun K4 hK4 => ?_
    -- region 2
    refine AW.regionK 0 (fun _ => none) [2] [] ?_
    simp only [go_sem, reduceIte, reduceCtorEq, Nat.reduceAdd, Nat.reduceMul, Nat.reduceEqDiff, Nat.reduceLT, Nat.reduceLeDiff, Nat.reduceSub, Nat.reducePow, Nat.reduceBEq, Int.reduceToNat, List.reduceReplicate]
    repeat with_reducible refine cj ?_ ?_
    all_goals try first | omega
    refine hK4 _ _ _ ?_; clear hK4
    refine AW.ret ?_
    rw [← hQr]
    simp only [go_sem, reduceIte, reduceCtorEq, Nat.reduceAdd, Nat.reduceMul, Nat.reduceEqDiff, Nat.reduceLT, Nat.reduceLeDiff, Nat.reduceSub, Nat.reducePow, Nat.reduceBEq, Int.reduceToNat, List.reduceReplicate]
    exact Wk.refl _
  · intro hb
    try simp only [hB, decide_eq_true_eq, decide_eq_false_iff_not] at hb
    simp at hb
theorem valid_g (n : Nat) (t : List (List Bool)) (hs : Sq n t) (hn : n ≤ 512) : Reads Try.prog 14 false [relB t] (.bool true) := by
  have h := rvalid_r (t.map SB) (by simp [hs.len]; omega) (fun x hx => by
    obtain ⟨b, hb, rfl⟩ := List.mem_map.1 hx
    have := hs.row b hb
    have hwn := wordsN_rng (n := (b.length : Int)) (by omega)
    show (setW b b.length).length ≤ _
    rw [setW_len']; omega)
  rw [valid_tab hs hn, ← relB_SB] at h
  exact h
theorem pairs_g (n : Nat) (t : List (List Bool)) (hs : Sq n t) (hn : n ≤ 512) : Reads Try.prog 16 false [relB t] (.tup [.rsl 2 ((pairsT t n).map pairV), .int .i64 ((0 : Nat) : Int)]) := by
  have h := (valid_g n t hs hn)
  have ha := (all_r n t hs hn)
  unfold relB at *
  refine Reads.body (rs := [.tmp 2, .tmp 3]) Try.func16 rfl Try.ntmps16 rfl (by simp) ?_
  generalize hQr : retQ _ _ _ = Qr
  refine AW.seq fun K1 hK1 => ?_
  -- region 0
  refine AW.regionK 0 (fun _ => none) [1] [1] ?_
  simp only [go_sem, reduceIte, reduceCtorEq, Nat.reduceAdd, Nat.reduceMul, Nat.reduceEqDiff, Nat.reduceLT, Nat.reduceLeDiff, Nat.reduceSub, Nat.reducePow, Nat.reduceBEq, Int.reduceToNat, List.reduceReplicate]
  repeat with_reducible refine cj ?_ ?_
  all_goals try first | omega
  refine hK1 _ _ _ ?_; clear hK1
  refine AW.seq fun K2 hK2 => ?_
  refine AW.seq fun K3 hK3 => ?_
  -- region 1
  refine AW.regionK 0 (fun ii => if ii = 1 then some (.reads false (.bool true)) else none) [1, 6] [1] ?_
  simp only [go_sem, reduceIte, reduceCtorEq, Nat.reduceAdd, Nat.reduceMul, Nat.reduceEqDiff, Nat.reduceLT, Nat.reduceLeDiff, Nat.reduceSub, Nat.reducePow, Nat.reduceBEq, Int.reduceToNat, List.reduceReplicate]
  repeat with_reducible refine cj ?_ ?_
  all_goals try first | (exact h) | omega | exact ent (by kernel_rfl)
  refine hK3 _ _ _ ?_; clear hK3
  -- cond 1
  refine AW.cond rfl (by simp only [go_sem, reduceIte, reduceCtorEq, Nat.reduceAdd, Nat.reduceMul, Nat.reduceEqDiff, Nat.reduceLT, Nat.reduceLeDiff, Nat.reduceSub, Nat.reducePow, Nat.reduceBEq, Int.reduceToNat, List.reduceReplicate]) ?_ ?_
  · intro hb
    try simp only [hB, decide_eq_true_eq, decide_eq_false_iff_not] at hb
    simp at hb
  · intro hb
    try simp only [hB, decide_eq_true_eq, decide_eq_false_iff_not] at hb
    refine AW.skip ?_
    refine hK2 _ _ _ ?_; clear hK2
    refine AW.seq fun K4 hK4 => ?_
    -- region 3
    refine AW.regionK 0 (fun ii => if ii = 1 then some (.reads true (.rsl 2 ((pairsT t n).map pairV))) else none) [2, 3] [] ?_
    simp only [go_sem, reduceIte, reduceCtorEq, Nat.reduceAdd, Nat.reduceMul, Nat.reduceEqDiff, Nat.reduceLT, Nat.reduceLeDiff, Nat.reduceSub, Nat.reducePow, Nat.reduceBEq, Int.reduceToNat, List.reduceReplicate]
    repeat with_reducible refine cj ?_ ?_
    all_goals try first | (exact ha) | omega | exact ent (by kernel_rfl)
    refine hK4 _ _ _ ?_; clear hK4
    refine AW.ret ?_
    rw [← hQr]
    simp only [go_sem, reduceIte, reduceCtorEq, Nat.reduceAdd, Nat.reduceMul, Nat.reduceEqDiff, Nat.reduceLT, Nat.reduceLeDiff, Nat.reduceSub, Nat.reducePow, Nat.reduceBEq, Int.reduceToNat, List.reduceReplicate]
    exact Wk.refl _
end Go.Proofs.R

namespace Go.Proofs.R
open Go.AM Go
set_option maxRecDepth 100000
set_option maxHeartbeats 1000000
theorem acyclic_g (n : Nat) (t : List (List Bool)) (hs : Sq n t) (hn : n ≤ 512) : Reads Try.prog 32 false [relB t] (.bool (acyc n t)) := by
  have h := valid_g n t hs hn
  have ha := closure_r n t hs hn
  have hsw := hs.warsh
  have hlw : (tabR (warsh n t)).length = n := by rw [tabR_len, hsw.len]
  have hh := fun j hj => rhas_r n (warsh n t) hsw hn j j hj hj
  have hac : acyc n t = (List.range n).all fun i => !atT (warsh n t) i i := rfl
  generalize warsh n t = c at *
  unfold relB at *
  refine Reads.body (rs := [.tmp 2]) Try.func32 rfl Try.ntmps32 rfl (by simp) ?_
  generalize hQr : retQ _ _ _ = Qr
  refine AW.seq fun K1 hK1 => ?_
  -- region 0
  refine AW.regionK 0 (fun _ => none) [1] [1] ?_
  simp only [go_sem, reduceIte, reduceCtorEq, Nat.reduceAdd, Nat.reduceMul, Nat.reduceEqDiff, Nat.reduceLT, Nat.reduceLeDiff, Nat.reduceSub, Nat.reducePow, Nat.reduceBEq, Int.reduceToNat, List.reduceReplicate, hlw]
  repeat with_reducible refine cj ?_ ?_
  all_goals try first | omega
  refine hK1 _ _ _ ?_; clear hK1
  refine AW.seq fun K2 hK2 => ?_
  refine AW.seq fun K3 hK3 => ?_
  -- region 1
  refine AW.regionK 0 (fun ii => if ii = 1 then some (.reads false (.bool true)) else none) [1, 7] [1] ?_
  simp only [go_sem, reduceIte, reduceCtorEq, Nat.reduceAdd, Nat.reduceMul, Nat.reduceEqDiff, Nat.reduceLT, Nat.reduceLeDiff, Nat.reduceSub, Nat.reducePow, Nat.reduceBEq, Int.reduceToNat, List.reduceReplicate, hlw]
  repeat with_reducible refine cj ?_ ?_
  all_goals try first | (exact h) | omega | exact ent (by kernel_rfl)
  refine hK3 _ _ _ ?_; clear hK3
  -- cond 1
  refine AW.cond rfl (by simp only [go_sem, reduceIte, reduceCtorEq, Nat.reduceAdd, Nat.reduceMul, Nat.reduceEqDiff, Nat.reduceLT, Nat.reduceLeDiff, Nat.reduceSub, Nat.reducePow, Nat.reduceBEq, Int.reduceToNat, List.reduceReplicate]) ?_ ?_
  · intro hb
    try simp only [hB, decide_eq_true_eq, decide_eq_false_iff_not] at hb
    simp at hb
  · intro hb
    try simp only [hB, decide_eq_true_eq, decide_eq_false_iff_not] at hb
    refine AW.skip ?_
    refine hK2 _ _ _ ?_; clear hK2
    refine AW.seq fun K4 hK4 => ?_
    -- region 3
    refine AW.regionK 0 (fun ii => if ii = 1 then some (.reads true (.agg [.rsl 2 (tabR c)])) else none) [3] [3] ?_
    simp only [go_sem, reduceIte, reduceCtorEq, Nat.reduceAdd, Nat.reduceMul, Nat.reduceEqDiff, Nat.reduceLT, Nat.reduceLeDiff, Nat.reduceSub, Nat.reducePow, Nat.reduceBEq, Int.reduceToNat, List.reduceReplicate, hlw]
    repeat with_reducible refine cj ?_ ?_
    all_goals try first | (exact ha) | omega | exact ent (by kernel_rfl)
    refine hK4 _ _ _ ?_; clear hK4
    refine AW.seq fun K5 hK5 => ?_
    refine AW.seq fun K6 hK6 => ?_
    -- region 4
    refine AW.regionK 0 (fun _ => none) [3, 12, 13] [3] ?_
    simp only [go_sem, reduceIte, reduceCtorEq, Nat.reduceAdd, Nat.reduceMul, Nat.reduceEqDiff, Nat.reduceLT, Nat.reduceLeDiff, Nat.reduceSub, Nat.reducePow, Nat.reduceBEq, Int.reduceToNat, List.reduceReplicate, hlw]
    repeat with_reducible refine cj ?_ ?_
    all_goals try first | omega
    refine hK6 _ _ _ ?_; clear hK6
    refine AW.block ?_
    -- loop 1
    refine AW.loopE (fun mm ee ss kk => ∃ (j g3 v3 : Nat), n - j = mm ∧ ee = [(3, .ptr ⟨3, g3, none⟩ 0 0), (12, .int .i64 n), (13, .int .i64 (j : Nat))] ∧ ss = [(3, some ⟨g3, v3, 1, [[.rsl 2 (tabR c)]]⟩)] ∧ (j ≤ n ∧ ((List.range j).all fun i => !atT c i i) = true)) ?_ ?_
    · refine ⟨_, 0, ?_, ?_, rfl, ?henv, ?hstore, ?hst⟩
      case henv =>
        repeat' (first | rfl | refine env_cons ?_ ?_ | refine st_cons ?_ ?_ ?_ ?_ | refine int_eq ?_ | refine bool_eq ?_ | refine rsl_eq ?_ | refine osl_eq ?_ | refine sl_eq ?_ ?_ ?_ | refine ptr_eq ?_ ?_ ?_ | refine agg_eq ?_ | refine es_cons ?_ ?_ | refine row_cons ?_ ?_)
        all_goals (first | (simp; done) | omega | (simp; omega))
      case hstore =>
        repeat' (first | rfl | refine env_cons ?_ ?_ | refine st_cons ?_ ?_ ?_ ?_ | refine int_eq ?_ | refine bool_eq ?_ | refine rsl_eq ?_ | refine osl_eq ?_ | refine sl_eq ?_ ?_ ?_ | refine ptr_eq ?_ ?_ ?_ | refine agg_eq ?_ | refine es_cons ?_ ?_ | refine row_cons ?_ ?_)
        all_goals (first | (simp; done) | omega | (simp; omega))
      case hst =>
        exact ⟨Nat.zero_le _, rfl⟩
    rintro mm ee ss kk ⟨j, g3, v3, rfl, rfl, rfl, hI⟩
    generalize hQl1 : thenQ _ _ = Ql1
    obtain ⟨hj, hall⟩ := hI
    refine AW.seq fun K7 hK7 => ?_
    -- region 5
    refine AW.regionK 0 (fun _ => none) [3, 12, 13, 14] [3] ?_
    simp only [go_sem, reduceIte, reduceCtorEq, Nat.reduceAdd, Nat.reduceMul, Nat.reduceEqDiff, Nat.reduceLT, Nat.reduceLeDiff, Nat.reduceSub, Nat.reducePow, Nat.reduceBEq, Int.reduceToNat, List.reduceReplicate, hlw]
    repeat with_reducible refine cj ?_ ?_
    all_goals try first | omega
    refine hK7 _ _ _ ?_; clear hK7
    refine AW.seq fun K8 hK8 => ?_
    -- cond 2
    refine AW.cond rfl (by simp only [go_sem, reduceIte, reduceCtorEq, Nat.reduceAdd, Nat.reduceMul, Nat.reduceEqDiff, Nat.reduceLT, Nat.reduceLeDiff, Nat.reduceSub, Nat.reducePow, Nat.reduceBEq, Int.reduceToNat, List.reduceReplicate]) ?_ ?_
    · intro hb
      try simp only [hB, decide_eq_true_eq, decide_eq_false_iff_not] at hb
      have hhj := hh j (by omega)
      have hrs := range_all_succ (p := fun i => !atT c i i) j
      rw [hall] at hrs
      refine AW.skip ?_
      refine hK8 _ _ _ ?_; clear hK8
      refine AW.seq fun K9 hK9 => ?_
      refine AW.block ?_
      refine AW.seq fun K10 hK10 => ?_
      -- region 6
      refine AW.regionK 0 (fun _ => none) [3, 4, 12, 13] [3] ?_
      simp only [go_sem, reduceIte, reduceCtorEq, Nat.reduceAdd, Nat.reduceMul, Nat.reduceEqDiff, Nat.reduceLT, Nat.reduceLeDiff, Nat.reduceSub, Nat.reducePow, Nat.reduceBEq, Int.reduceToNat, List.reduceReplicate, hlw]
      repeat with_reducible refine cj ?_ ?_
      all_goals try first | omega
      refine hK10 _ _ _ ?_; clear hK10
      refine AW.seq fun K11 hK11 => ?_
      -- region 7
      refine AW.regionK 0 (fun ii => if ii = 3 then some (.reads false (.bool (atT c j j))) else none) [3, 12, 13, 19] [3] ?_
      simp only [go_sem, reduceIte, reduceCtorEq, Nat.reduceAdd, Nat.reduceMul, Nat.reduceEqDiff, Nat.reduceLT, Nat.reduceLeDiff, Nat.reduceSub, Nat.reducePow, Nat.reduceBEq, Int.reduceToNat, List.reduceReplicate, hlw]
      repeat with_reducible refine cj ?_ ?_
      all_goals try first | (exact hhj) | omega | exact ent (by kernel_rfl)
      refine hK11 _ _ _ ?_; clear hK11
      -- cond 3
      refine AW.cond rfl (by simp only [go_sem, reduceIte, reduceCtorEq, Nat.reduceAdd, Nat.reduceMul, Nat.reduceEqDiff, Nat.reduceLT, Nat.reduceLeDiff, Nat.reduceSub, Nat.reducePow, Nat.reduceBEq, Int.reduceToNat, List.reduceReplicate]) ?_ ?_
      · intro hb
        try simp only [hB, decide_eq_true_eq, decide_eq_false_iff_not] at hb
        refine AW.seq fun K12 hK12 => ?_
        -- region 8
        refine AW.regionK 0 (fun _ => none) [2] [] ?_
        simp only [go_sem, reduceIte, reduceCtorEq, Nat.reduceAdd, Nat.reduceMul, Nat.reduceEqDiff, Nat.reduceLT, Nat.reduceLeDiff, Nat.reduceSub, Nat.reducePow, Nat.reduceBEq, Int.reduceToNat, List.reduceReplicate, hlw]
        repeat with_reducible refine cj ?_ ?_
        all_goals try first | omega
        refine hK12 _ _ _ ?_; clear hK12
        refine AW.ret ?_
        rw [← hQl1]
        rw [← hQr]
        simp only [go_sem, reduceIte, reduceCtorEq, Nat.reduceAdd, Nat.reduceMul, Nat.reduceEqDiff, Nat.reduceLT, Nat.reduceLeDiff, Nat.reduceSub, Nat.reducePow, Nat.reduceBEq, Int.reduceToNat, List.reduceReplicate, hlw]
        exact Wk.of_eq (by rw [hac, range_all_false (j := j) (by omega) (by rw [hb]; rfl)])
      · intro hb
        try simp only [hB, decide_eq_true_eq, decide_eq_false_iff_not] at hb
        refine AW.skip ?_
        refine hK9 _ _ _ ?_; clear hK9
        -- region 9
        refine AW.regionK 0 (fun _ => none) [3, 12, 13] [3] ?_
        simp only [go_sem, reduceIte, reduceCtorEq, Nat.reduceAdd, Nat.reduceMul, Nat.reduceEqDiff, Nat.reduceLT, Nat.reduceLeDiff, Nat.reduceSub, Nat.reducePow, Nat.reduceBEq, Int.reduceToNat, List.reduceReplicate, hlw]
        repeat with_reducible refine cj ?_ ?_
        all_goals try first | omega
        rw [← hQl1]
        change Exists _
        refine ⟨_, ?hm, j + 1, ?_, ?_, rfl, ?henv, ?hstore, ?hst⟩
        case henv =>
          repeat' (first | rfl | refine env_cons ?_ ?_ | refine st_cons ?_ ?_ ?_ ?_ | refine int_eq ?_ | refine bool_eq ?_ | refine rsl_eq ?_ | refine osl_eq ?_ | refine sl_eq ?_ ?_ ?_ | refine ptr_eq ?_ ?_ ?_ | refine agg_eq ?_ | refine es_cons ?_ ?_ | refine row_cons ?_ ?_)
          all_goals (first | (simp; done) | omega | (simp; omega))
        case hstore =>
          repeat' (first | rfl | refine env_cons ?_ ?_ | refine st_cons ?_ ?_ ?_ ?_ | refine int_eq ?_ | refine bool_eq ?_ | refine rsl_eq ?_ | refine osl_eq ?_ | refine sl_eq ?_ ?_ ?_ | refine ptr_eq ?_ ?_ ?_ | refine agg_eq ?_ | refine es_cons ?_ ?_ | refine row_cons ?_ ?_)
          all_goals (first | (simp; done) | omega | (simp; omega))
        case hst =>
          exact ⟨by omega, by rw [hrs, hb]; rfl⟩
        case hm => omega
    · intro hb
      try simp only [hB, decide_eq_true_eq, decide_eq_false_iff_not] at hb
      refine AW.keep [] [] ?_
      try simp only [go_sem, reduceIte, reduceCtorEq, Nat.reduceAdd, Nat.reduceMul, Nat.reduceEqDiff, Nat.reduceLT, Nat.reduceLeDiff, Nat.reduceSub, Nat.reducePow, Nat.reduceBEq, Int.reduceToNat, List.reduceReplicate]
      refine AW.exit ?_
      rw [← hQl1]
      refine hK5 _ _ _ ?_; clear hK5
      refine AW.seq fun K13 hK13 => ?_
      -- region 10
      refine AW.regionK 0 (fun _ => none) [2] [] ?_
      simp only [go_sem, reduceIte, reduceCtorEq, Nat.reduceAdd, Nat.reduceMul, Nat.reduceEqDiff, Nat.reduceLT, Nat.reduceLeDiff, Nat.reduceSub, Nat.reducePow, Nat.reduceBEq, Int.reduceToNat, List.reduceReplicate, hlw]
      repeat with_reducible refine cj ?_ ?_
      all_goals try first | omega
      refine hK13 _ _ _ ?_; clear hK13
      refine AW.ret ?_
      rw [← hQr]
      simp only [go_sem, reduceIte, reduceCtorEq, Nat.reduceAdd, Nat.reduceMul, Nat.reduceEqDiff, Nat.reduceLT, Nat.reduceLeDiff, Nat.reduceSub, Nat.reducePow, Nat.reduceBEq, Int.reduceToNat, List.reduceReplicate, hlw]
      have hj2 : j = n := by omega
      subst hj2
      exact Wk.of_eq (by rw [hac, hall])
theorem fillO_get (t : List (List Bool)) (x : List AV) (i : Nat) (h : i < t.length) : ((tabO t).set i x).getD i [] = x := Go.AM.getD_set_eq (by rw [tabO_len]; exact h) _ _
theorem reduction_g (n : Nat) (t : List (List Bool)) (hs : Sq n t) (hn : n ≤ 512) (hac : acyc n t = true) : Reads Try.prog 22 false [relB t] (.tup [relB (redT n t (compT n t (warsh n t))), .int .i64 ((0 : Nat) : Int)]) := by
  have h := valid_g n t hs hn
  have h2 := acyclic_g n t hs hn
  rw [hac] at h2
  have hcl := (closure_r n t hs hn).old
  have hco := (compose_r n t (warsh n t) hs hs.warsh hn).old
  have hsl : Sq n (compT n t (warsh n t)) := Sq.comp hs.warsh
  have hemp := empty_u n hn
  have hlt : (tabR t).length = n := by rw [tabR_len, hs.len]
  have hwn := wordsN_rng (n := (n : Int)) (by omega)
  generalize hl : compT n t (warsh n t) = l at *
  have hsr := Sq.red hs hsl
  have hll : (tabR l).length = n := by rw [tabR_len, hsl.len]
  unfold relB at *
  refine Reads.body (rs := [.cell 2 24, .tmp 3]) Try.func22 rfl Try.ntmps22 rfl (by simp) ?_
  generalize hQr : retQ _ _ _ = Qr
  refine AW.seq fun K1 hK1 => ?_
  -- region 0
  refine AW.regionK 0 (fun _ => none) [1, 2] [1, 2] ?_
  simp only [go_sem, reduceIte, reduceCtorEq, Nat.reduceAdd, Nat.reduceMul, Nat.reduceEqDiff, Nat.reduceLT, Nat.reduceLeDiff, Nat.reduceSub, Nat.reducePow, Nat.reduceBEq, Int.reduceToNat, List.reduceReplicate, hlt, renC_tabO]
  repeat with_reducible refine cj ?_ ?_
  all_goals try first | omega
  refine hK1 _ _ _ ?_; clear hK1
  refine AW.seq fun K2 hK2 => ?_
  refine AW.block ?_
  refine AW.seq fun K3 hK3 => ?_
  -- region 1
  refine AW.regionK 0 (fun ii => if ii = 1 then some (.reads false (.bool true)) else none) [1, 2, 10] [1, 2] ?_
  simp only [go_sem, reduceIte, reduceCtorEq, Nat.reduceAdd, Nat.reduceMul, Nat.reduceEqDiff, Nat.reduceLT, Nat.reduceLeDiff, Nat.reduceSub, Nat.reducePow, Nat.reduceBEq, Int.reduceToNat, List.reduceReplicate, hlt, renC_tabO]
  repeat with_reducible refine cj ?_ ?_
  all_goals try first | (exact h) | omega | exact ent (by kernel_rfl)
  refine hK3 _ _ _ ?_; clear hK3
  -- cond 1
  refine AW.cond rfl (by simp only [go_sem, reduceIte, reduceCtorEq, Nat.reduceAdd, Nat.reduceMul, Nat.reduceEqDiff, Nat.reduceLT, Nat.reduceLeDiff, Nat.reduceSub, Nat.reducePow, Nat.reduceBEq, Int.reduceToNat, List.reduceReplicate]) ?_ ?_
  · intro hb
    try simp only [hB, decide_eq_true_eq, decide_eq_false_iff_not] at hb
    simp at hb
  · intro hb
    try simp only [hB, decide_eq_true_eq, decide_eq_false_iff_not] at hb
    refine AW.seq fun K4 hK4 => ?_
    -- region 3
    refine AW.regionK 0 (fun ii => if ii = 1 then some (.reads false (.bool true)) else none) [1, 2, 15] [1, 2] ?_
    simp only [go_sem, reduceIte, reduceCtorEq, Nat.reduceAdd, Nat.reduceMul, Nat.reduceEqDiff, Nat.reduceLT, Nat.reduceLeDiff, Nat.reduceSub, Nat.reducePow, Nat.reduceBEq, Int.reduceToNat, List.reduceReplicate, hlt, renC_tabO]
    repeat with_reducible refine cj ?_ ?_
    all_goals try first | (exact h2) | omega | exact ent (by kernel_rfl)
    refine hK4 _ _ _ ?_; clear hK4
    -- cond 2
    refine AW.cond rfl (by simp only [go_sem, reduceIte, reduceCtorEq, Nat.reduceAdd, Nat.reduceMul, Nat.reduceEqDiff, Nat.reduceLT, Nat.reduceLeDiff, Nat.reduceSub, Nat.reducePow, Nat.reduceBEq, Int.reduceToNat, List.reduceReplicate]) ?_ ?_
    · intro hb
      try simp only [hB, decide_eq_true_eq, decide_eq_false_iff_not] at hb
      simp at hb
    · intro hb
      try simp only [hB, decide_eq_true_eq, decide_eq_false_iff_not] at hb
      refine AW.skip ?_
      refine hK2 _ _ _ ?_; clear hK2
      refine AW.seq fun K5 hK5 => ?_
      -- region 5
      refine AW.regionD mixed 0 (fun ii => if ii = 2 then some (.reads false (.agg [.rsl 2 (tabR (warsh n t))])) else if ii = 3 then some (.reads false (.agg [.rsl 2 (tabR l)])) else none) [1, 2, 4] [1, 2, 4] ?_
      simp only [go_sem, reduceIte, reduceCtorEq, Nat.reduceAdd, Nat.reduceMul, Nat.reduceEqDiff, Nat.reduceLT, Nat.reduceLeDiff, Nat.reduceSub, Nat.reducePow, Nat.reduceBEq, Int.reduceToNat, List.reduceReplicate, hlt, renC_tabO]
      repeat with_reducible refine cj ?_ ?_
      all_goals try first | (first | exact hcl | exact hco) | omega | exact chk (by kernel_rfl) | exact ent (by kernel_rfl)
      refine hK5 _ _ _ ?_; clear hK5
      refine AW.seq fun K6 hK6 => ?_
      -- region 6
      refine AW.regionK 0 (fun ii => if ii = 3 then some (.upd [] (fun k => [(0, some ⟨k, k, 2, tabO (List.replicate n (List.replicate n false))⟩)]) (fun k => .agg [.sl ⟨0, k, none⟩ 0 n none])) else none) [1, 2, 4, 5] [1, 2, 4, 5, 27] ?_
      simp only [go_sem, reduceIte, reduceCtorEq, Nat.reduceAdd, Nat.reduceMul, Nat.reduceEqDiff, Nat.reduceLT, Nat.reduceLeDiff, Nat.reduceSub, Nat.reducePow, Nat.reduceBEq, Int.reduceToNat, List.reduceReplicate, hlt, renC_tabO]
      repeat with_reducible refine cj ?_ ?_
      all_goals try first | (exact hemp) | omega | exact ent (by kernel_rfl)
      refine hK6 _ _ _ ?_; clear hK6
      refine AW.seq fun K7 hK7 => ?_
      refine AW.seq fun K8 hK8 => ?_
      -- region 7
      refine AW.regionK 0 (fun _ => none) [2, 4, 5, 29, 30, 31] [2, 4, 5, 27] ?_
      simp only [go_sem, reduceIte, reduceCtorEq, Nat.reduceAdd, Nat.reduceMul, Nat.reduceEqDiff, Nat.reduceLT, Nat.reduceLeDiff, Nat.reduceSub, Nat.reducePow, Nat.reduceBEq, Int.reduceToNat, List.reduceReplicate, hlt, renC_tabO]
      repeat with_reducible refine cj ?_ ?_
      all_goals try first | omega
      refine hK8 _ _ _ ?_; clear hK8
      refine AW.block ?_
      -- loop 1
      refine AW.loopE (fun mm ee ss kk => ∃ (i g2 v2 g4 v4 g5 v5 g v : Nat), n - i = mm ∧ ee = [(2, .ptr ⟨2, g2, none⟩ 0 0), (4, .ptr ⟨4, g4, none⟩ 0 0), (5, .ptr ⟨5, g5, none⟩ 0 0), (29, .rsl 2 (tabR t)), (30, .int .i64 n), (31, .int .i64 (i : Nat))] ∧ ss = [(2, some ⟨g2, v2, 1, [[.nilsl]]⟩), (4, some ⟨g4, v4, 1, [[.rsl 2 (tabR l)]]⟩), (5, some ⟨g5, v5, 1, [[.sl ⟨27, g, none⟩ 0 n none]]⟩), (27, some ⟨g, v, 2, tabO (fillT (redT n t l) n i)⟩)] ∧ (i ≤ n)) ?_ ?_
      · refine ⟨_, 0, ?_, ?_, ?_, ?_, ?_, ?_, ?_, ?_, rfl, ?henv, ?hstore, ?hst⟩
        case henv =>
          repeat' (first | rfl | refine env_cons ?_ ?_ | refine st_cons ?_ ?_ ?_ ?_ | refine int_eq ?_ | refine bool_eq ?_ | refine rsl_eq ?_ | refine osl_eq ?_ | refine sl_eq ?_ ?_ ?_ | refine ptr_eq ?_ ?_ ?_ | refine agg_eq ?_ | refine es_cons ?_ ?_ | refine row_cons ?_ ?_)
          all_goals (first | (simp; done) | omega | (simp; omega))
        case hstore =>
          repeat' (first | rfl | refine env_cons ?_ ?_ | refine st_cons ?_ ?_ ?_ ?_ | refine int_eq ?_ | refine bool_eq ?_ | refine rsl_eq ?_ | refine osl_eq ?_ | refine sl_eq ?_ ?_ ?_ | refine ptr_eq ?_ ?_ ?_ | refine agg_eq ?_ | refine es_cons ?_ ?_ | refine row_cons ?_ ?_)
          all_goals (rw [fillT_zero]; rfl)
        case hst =>
          first | trivial | omega | (simp; done) | (simp; omega)
      rintro mm ee ss kk ⟨i, g2, v2, g4, v4, g5, v5, g, v, rfl, rfl, rfl, hI⟩
      generalize hQl1 : thenQ _ _ = Ql1
      refine AW.seq fun K9 hK9 => ?_
      -- region 8
      refine AW.regionK 0 (fun _ => none) [2, 4, 5, 29, 30, 31, 32] [2, 4, 5, 27] ?_
      simp only [go_sem, reduceIte, reduceCtorEq, Nat.reduceAdd, Nat.reduceMul, Nat.reduceEqDiff, Nat.reduceLT, Nat.reduceLeDiff, Nat.reduceSub, Nat.reducePow, Nat.reduceBEq, Int.reduceToNat, List.reduceReplicate, hlt, renC_tabO]
      repeat with_reducible refine cj ?_ ?_
      all_goals try first | omega
      refine hK9 _ _ _ ?_; clear hK9
      refine AW.seq fun K10 hK10 => ?_
      -- cond 3
      refine AW.cond rfl (by simp only [go_sem, reduceIte, reduceCtorEq, Nat.reduceAdd, Nat.reduceMul, Nat.reduceEqDiff, Nat.reduceLT, Nat.reduceLeDiff, Nat.reduceSub, Nat.reducePow, Nat.reduceBEq, Int.reduceToNat, List.reduceReplicate]) ?_ ?_
      · intro hb
        try simp only [hB, decide_eq_true_eq, decide_eq_false_iff_not] at hb
        have hsf := fillT_sq hsr (i := i) (by omega)
        have hgr := tabR_get (t := t) (i := i) (by rw [hs.len]; omega)
        have hgl := tabR_get (t := l) (i := i) (by rw [hsl.len]; omega)
        have hgo := tabO_get (t := fillT (redT n t l) n i) (i := i) (by rw [hsf.len]; omega)
        rw [fillT_row hsr (by omega), rowO, List.length_replicate] at hgo
        have hto := tabO_len (fillT (redT n t l) n i)
        have hfl := hsf.len
        have hrl := hs.rowLen (i := i) (by omega)
        have hrl2 := hsl.rowLen (i := i) (by omega)
        have hfs := fillT_succ hsr (i := i) (by omega)
        have hrr := hsr.rowLen (i := i) (by omega)
        have hts := tabO_set (fillT (redT n t l) n i) i (rowT (redT n t l) i)
        have hwl := setW_len' (rowT t i)
        have hwl2 := setW_len' (rowT l i)
        have hwz := setW_len' (List.replicate n false)
        have hzz := zipW_setW bitOp_andNot (a := rowT t i) (b := rowT l i) (by rw [hrl, hrl2])
        rw [hrl] at hwl
        rw [hrl2] at hwl2
        rw [List.length_replicate] at hwz
        rw [hrl, hrl2] at hzz
        have hro : rowO (rowT (redT n t l) i) = [.int .i64 n, .osl 1 (words (List.zipWith (bAndNot .u64) (setW (rowT t i) n) (setW (rowT l i) n)))] := by rw [rowO, hrr, redT_row (by omega), hzz]; rfl
        have hfg := fillO_get (fillT (redT n t l) n i)
        generalize hF : fillT (redT n t l) n i = F at *
        have hfix : (tabO F).set i [.int .i64 n, .osl 1 (words (setW (List.replicate n false) n))] = tabO F := by rw [← hgo]; exact set_getD_self _ _ _
        generalize hA : setW (rowT t i) n = A at *
        generalize hB : setW (rowT l i) n = B at *
        generalize hZ : setW (List.replicate n false) n = Z at *
        have hAB : A.length = B.length := by omega
        have hZA : Z.length = A.length := by omega
        refine AW.skip ?_
        refine hK10 _ _ _ ?_; clear hK10
        refine AW.seq fun K11 hK11 => ?_
        refine AW.block ?_
        refine AW.seq fun K12 hK12 => ?_
        -- region 9
        refine AW.regionK 0 (fun _ => none) [2, 4, 5, 6, 7, 29, 30, 31] [2, 4, 5, 7, 27] ?_
        simp only [go_sem, reduceIte, reduceCtorEq, Nat.reduceAdd, Nat.reduceMul, Nat.reduceEqDiff, Nat.reduceLT, Nat.reduceLeDiff, Nat.reduceSub, Nat.reducePow, Nat.reduceBEq, Int.reduceToNat, List.reduceReplicate, hlt, renC_tabO, hgr, rowB, hrl, hA]
        repeat with_reducible refine cj ?_ ?_
        all_goals try first | omega
        refine hK12 _ _ _ ?_; clear hK12
        refine AW.seq fun K13 hK13 => ?_
        -- region 10
        refine AW.regionK 0 (fun _ => none) [2, 4, 5, 6, 29, 30, 31, 37, 38, 39] [2, 4, 5, 27] ?_
        simp only [go_sem, reduceIte, reduceCtorEq, Nat.reduceAdd, Nat.reduceMul, Nat.reduceEqDiff, Nat.reduceLT, Nat.reduceLeDiff, Nat.reduceSub, Nat.reducePow, Nat.reduceBEq, Int.reduceToNat, List.reduceReplicate, hlt, renC_tabO]
        repeat with_reducible refine cj ?_ ?_
        all_goals try first | omega
        refine hK13 _ _ _ ?_; clear hK13
        refine AW.block ?_
        -- loop 2
        refine AW.loopE (fun mm ee ss kk => ∃ (k g2 v2 g4 v4 g5 v5 : Nat), A.length - k = mm ∧ ee = [(2, .ptr ⟨2, g2, none⟩ 0 0), (4, .ptr ⟨4, g4, none⟩ 0 0), (5, .ptr ⟨5, g5, none⟩ 0 0), (6, .int .i64 (i : Nat)), (29, .rsl 2 (tabR t)), (30, .int .i64 n), (31, .int .i64 (i : Nat)), (37, .rsl 1 (words A)), (38, .int .i64 A.length), (39, .int .i64 (k : Nat))] ∧ ss = [(2, some ⟨g2, v2, 1, [[.nilsl]]⟩), (4, some ⟨g4, v4, 1, [[.rsl 2 (tabR l)]]⟩), (5, some ⟨g5, v5, 1, [[.sl ⟨27, g, none⟩ 0 n none]]⟩), (27, some ⟨g, v, 2, (tabO F).set i [.int .i64 n, .osl 1 (words (mixW (bAndNot .u64) A B Z k))]⟩)] ∧ (k ≤ A.length)) ?_ ?_
        · refine ⟨_, 0, ?_, ?_, ?_, ?_, ?_, ?_, rfl, ?henv, ?hstore, ?hst⟩
          case henv =>
            repeat' (first | rfl | refine env_cons ?_ ?_ | refine st_cons ?_ ?_ ?_ ?_ | refine int_eq ?_ | refine bool_eq ?_ | refine rsl_eq ?_ | refine osl_eq ?_ | refine sl_eq ?_ ?_ ?_ | refine ptr_eq ?_ ?_ ?_ | refine agg_eq ?_ | refine es_cons ?_ ?_ | refine row_cons ?_ ?_)
            all_goals (first | (simp; done) | omega | (simp; omega))
          case hstore =>
            repeat' (first | rfl | refine env_cons ?_ ?_ | refine st_cons ?_ ?_ ?_ ?_ | refine int_eq ?_ | refine bool_eq ?_ | refine rsl_eq ?_ | refine osl_eq ?_ | refine sl_eq ?_ ?_ ?_ | refine ptr_eq ?_ ?_ ?_ | refine agg_eq ?_ | refine es_cons ?_ ?_ | refine row_cons ?_ ?_)
            all_goals (first | (rw [mixW_zero, hfix]; done) | rfl)
          case hst =>
            first | trivial | omega | (simp; done) | (simp; omega)
        rintro mm ee ss kk ⟨k, g2, v2, g4, v4, g5, v5, rfl, rfl, rfl, hI⟩
        generalize hQl2 : thenQ _ _ = Ql2
        refine AW.seq fun K14 hK14 => ?_
        -- region 11
        refine AW.regionK 0 (fun _ => none) [2, 4, 5, 6, 29, 30, 31, 37, 38, 39, 40] [2, 4, 5, 27] ?_
        simp only [go_sem, reduceIte, reduceCtorEq, Nat.reduceAdd, Nat.reduceMul, Nat.reduceEqDiff, Nat.reduceLT, Nat.reduceLeDiff, Nat.reduceSub, Nat.reducePow, Nat.reduceBEq, Int.reduceToNat, List.reduceReplicate, hlt, renC_tabO]
        repeat with_reducible refine cj ?_ ?_
        all_goals try first | omega
        refine hK14 _ _ _ ?_; clear hK14
        refine AW.seq fun K15 hK15 => ?_
        -- cond 4
        refine AW.cond rfl (by simp only [go_sem, reduceIte, reduceCtorEq, Nat.reduceAdd, Nat.reduceMul, Nat.reduceEqDiff, Nat.reduceLT, Nat.reduceLeDiff, Nat.reduceSub, Nat.reducePow, Nat.reduceBEq, Int.reduceToNat, List.reduceReplicate]) ?_ ?_
        · intro hb
          try simp only [hB, decide_eq_true_eq, decide_eq_false_iff_not] at hb
          have hga := words_getD (l := A) (i := k) (by omega)
          have hgb := words_getD (l := B) (i := k) (by omega)
          have hml := mixW_len (f := bAndNot .u64) hAB hZA k
          have hms := mixW_succ (f := bAndNot .u64) hAB hZA (j := k) (by omega)
          have hgm := words_getD (l := mixW (bAndNot .u64) A B Z k) (i := k) (by omega)
          have hfg2 := fun x => hfg x i (by omega)
          refine AW.skip ?_
          refine hK15 _ _ _ ?_; clear hK15
          refine AW.seq fun K16 hK16 => ?_
          refine AW.block ?_
          refine AW.seq fun K17 hK17 => ?_
          -- region 12
          refine AW.regionK 0 (fun _ => none) [2, 4, 5, 6, 8, 9, 29, 30, 31, 37, 38, 39] [2, 4, 5, 27] ?_
          simp only [go_sem, reduceIte, reduceCtorEq, Nat.reduceAdd, Nat.reduceMul, Nat.reduceEqDiff, Nat.reduceLT, Nat.reduceLeDiff, Nat.reduceSub, Nat.reducePow, Nat.reduceBEq, Int.reduceToNat, List.reduceReplicate, hlt, renC_tabO, hga]
          repeat with_reducible refine cj ?_ ?_
          all_goals try first | omega
          refine hK17 _ _ _ ?_; clear hK17
          -- region 13
          refine AW.regionD mixed 0 (fun _ => none) [2, 4, 5, 6, 29, 30, 31, 37, 38, 39] [2, 4, 5, 27] ?_
          simp only [go_sem, reduceIte, reduceCtorEq, Nat.reduceAdd, Nat.reduceMul, Nat.reduceEqDiff, Nat.reduceLT, Nat.reduceLeDiff, Nat.reduceSub, Nat.reducePow, Nat.reduceBEq, Int.reduceToNat, List.reduceReplicate, hlt, renC_tabO, hfg2, hgl, rowB, hrl2, hB, hgb, hgm, List.set_set]
          repeat with_reducible refine cj ?_ ?_
          all_goals try first | omega | exact chk (by kernel_rfl)
          refine hK16 _ _ _ ?_; clear hK16
          -- region 14
          refine AW.regionK 0 (fun _ => none) [2, 4, 5, 6, 29, 30, 31, 37, 38, 39] [2, 4, 5, 27] ?_
          simp only [go_sem, reduceIte, reduceCtorEq, Nat.reduceAdd, Nat.reduceMul, Nat.reduceEqDiff, Nat.reduceLT, Nat.reduceLeDiff, Nat.reduceSub, Nat.reducePow, Nat.reduceBEq, Int.reduceToNat, List.reduceReplicate, hlt, renC_tabO]
          repeat with_reducible refine cj ?_ ?_
          all_goals try first | omega
          rw [← hQl2]
          change Exists _
          refine ⟨_, ?hm, k + 1, ?_, ?_, ?_, ?_, ?_, ?_, rfl, ?henv, ?hstore, ?hst⟩
          case henv =>
            repeat' (first | rfl | refine env_cons ?_ ?_ | refine st_cons ?_ ?_ ?_ ?_ | refine int_eq ?_ | refine bool_eq ?_ | refine rsl_eq ?_ | refine osl_eq ?_ | refine sl_eq ?_ ?_ ?_ | refine ptr_eq ?_ ?_ ?_ | refine agg_eq ?_ | refine es_cons ?_ ?_ | refine row_cons ?_ ?_)
            all_goals (first | (simp; done) | omega | (simp; omega))
          case hstore =>
            repeat' (first | rfl | refine env_cons ?_ ?_ | refine st_cons ?_ ?_ ?_ ?_ | refine int_eq ?_ | refine bool_eq ?_ | refine rsl_eq ?_ | refine osl_eq ?_ | refine sl_eq ?_ ?_ ?_ | refine ptr_eq ?_ ?_ ?_ | refine agg_eq ?_ | refine es_cons ?_ ?_ | refine row_cons ?_ ?_)
            all_goals (rw [hms])
          case hst =>
            first | trivial | omega | (simp; done) | (simp; omega)
          case hm => omega
        · intro hb
          try simp only [hB, decide_eq_true_eq, decide_eq_false_iff_not] at hb
          have hk : k = A.length := by omega
          subst hk
          rw [mixW_all hAB hZA (Nat.le_refl _)]
          refine AW.keep [2, 4, 5, 29, 30, 31] [2, 4, 5, 27] ?_
          try simp only [go_sem, reduceIte, reduceCtorEq, Nat.reduceAdd, Nat.reduceMul, Nat.reduceEqDiff, Nat.reduceLT, Nat.reduceLeDiff, Nat.reduceSub, Nat.reducePow, Nat.reduceBEq, Int.reduceToNat, List.reduceReplicate]
          refine AW.exit ?_
          rw [← hQl2]
          refine hK11 _ _ _ ?_; clear hK11
          -- region 15
          refine AW.regionK 0 (fun _ => none) [2, 4, 5, 29, 30, 31] [2, 4, 5, 27] ?_
          simp only [go_sem, reduceIte, reduceCtorEq, Nat.reduceAdd, Nat.reduceMul, Nat.reduceEqDiff, Nat.reduceLT, Nat.reduceLeDiff, Nat.reduceSub, Nat.reducePow, Nat.reduceBEq, Int.reduceToNat, List.reduceReplicate, hlt, renC_tabO]
          repeat with_reducible refine cj ?_ ?_
          all_goals try first | omega
          rw [← hQl1]
          change Exists _
          refine ⟨_, ?hm, i + 1, ?_, ?_, ?_, ?_, ?_, ?_, ?_, ?_, rfl, ?henv, ?hstore, ?hst⟩
          case henv =>
            repeat' (first | rfl | refine env_cons ?_ ?_ | refine st_cons ?_ ?_ ?_ ?_ | refine int_eq ?_ | refine bool_eq ?_ | refine rsl_eq ?_ | refine osl_eq ?_ | refine sl_eq ?_ ?_ ?_ | refine ptr_eq ?_ ?_ ?_ | refine agg_eq ?_ | refine es_cons ?_ ?_ | refine row_cons ?_ ?_)
            all_goals (first | (simp; done) | omega | (simp; omega))
          case hstore =>
            repeat' (first | rfl | refine env_cons ?_ ?_ | refine st_cons ?_ ?_ ?_ ?_ | refine int_eq ?_ | refine bool_eq ?_ | refine rsl_eq ?_ | refine osl_eq ?_ | refine sl_eq ?_ ?_ ?_ | refine ptr_eq ?_ ?_ ?_ | refine agg_eq ?_ | refine es_cons ?_ ?_ | refine row_cons ?_ ?_)
            all_goals (first | (rw [← hro, hts, hfs]; done) | rfl)
          case hst =>
            first | trivial | omega | (simp; done) | (simp; omega)
          case hm => omega
      · intro hb
        try simp only [hB, decide_eq_true_eq, decide_eq_false_iff_not] at hb
        refine AW.keep [2, 5] [2, 5, 27] ?_
        try simp only [go_sem, reduceIte, reduceCtorEq, Nat.reduceAdd, Nat.reduceMul, Nat.reduceEqDiff, Nat.reduceLT, Nat.reduceLeDiff, Nat.reduceSub, Nat.reducePow, Nat.reduceBEq, Int.reduceToNat, List.reduceReplicate]
        refine AW.exit ?_
        rw [← hQl1]
        refine hK7 _ _ _ ?_; clear hK7
        refine AW.seq fun K18 hK18 => ?_
        -- region 16
        refine AW.regionK 0 (fun _ => none) [2, 3] [2, 27] ?_
        simp only [go_sem, reduceIte, reduceCtorEq, Nat.reduceAdd, Nat.reduceMul, Nat.reduceEqDiff, Nat.reduceLT, Nat.reduceLeDiff, Nat.reduceSub, Nat.reducePow, Nat.reduceBEq, Int.reduceToNat, List.reduceReplicate, hlt, renC_tabO]
        repeat with_reducible refine cj ?_ ?_
        all_goals try first | omega
        refine hK18 _ _ _ ?_; clear hK18
        refine AW.ret ?_
        rw [← hQr]
        simp only [go_sem, reduceIte, reduceCtorEq, Nat.reduceAdd, Nat.reduceMul, Nat.reduceEqDiff, Nat.reduceLT, Nat.reduceLeDiff, Nat.reduceSub, Nat.reducePow, Nat.reduceBEq, Int.reduceToNat, List.reduceReplicate, hlt, renC_tabO]
        have hi : i = n := by omega
        subst hi
        rw [fillT_all hsr]
        refine Wk.of_eq ?_
        rw [List.take_of_length_le (by rw [tabO_len, hsr.len]; exact Nat.le_refl _), vwc_tabO]
        rfl
end Go.Proofs.R

namespace Go.Proofs.R
open Go.AM Go
set_option maxRecDepth 100000
set_option maxHeartbeats 1000000
def badPr (n : Int) (p : Int × Int) : Bool := !(decide (0 ≤ p.1) && decide (p.1 < n)) || !(decide (0 ≤ p.2) && decide (p.2 < n))
theorem in_r (n i : Int) : Reads Try.prog 43 false [.int .i64 i, .rptr [.int .i64 n]] (.bool (decide (0 ≤ i) && decide (i < n))) := by
  refine Reads.body (rs := [.tmp 3]) Try.func43 rfl Try.ntmps43 rfl (by simp) ?_
  generalize hQr : retQ _ _ _ = Qr
  refine AW.seq fun K1 hK1 => ?_
  -- region 0
  refine AW.regionK 0 (fun _ => none) [0, 1] [] ?_
  simp only [go_sem, reduceIte, reduceCtorEq, Nat.reduceAdd, Nat.reduceMul, Nat.reduceEqDiff, Nat.reduceLT, Nat.reduceLeDiff, Nat.reduceSub, Nat.reducePow, Nat.reduceBEq, Int.reduceToNat, List.reduceReplicate]
  repeat with_reducible refine cj ?_ ?_
  all_goals try first | omega
  refine hK1 _ _ _ ?_; clear hK1
  refine AW.seq fun K2 hK2 => ?_
  -- region 1
  refine AW.regionK 0 (fun _ => none) [3] [] ?_
  simp only [go_sem, reduceIte, reduceCtorEq, Nat.reduceAdd, Nat.reduceMul, Nat.reduceEqDiff, Nat.reduceLT, Nat.reduceLeDiff, Nat.reduceSub, Nat.reducePow, Nat.reduceBEq, Int.reduceToNat, List.reduceReplicate]
  repeat with_reducible refine cj ?_ ?_
  all_goals try first | omega | (intros; (repeat' apply And.intro) <;> first | assumption | omega | decide) | (intro hgd; exact absurd hgd (by decide)) | rfl | (simp only [go_sem, reduceIte, reduceCtorEq, Nat.reduceAdd, Nat.reduceMul, Nat.reduceEqDiff, Nat.reduceLT, Nat.reduceLeDiff, Nat.reduceSub, Nat.reducePow, Nat.reduceBEq, Int.reduceToNat, List.reduceReplicate]; done) | (intro _hgd; simp_all [go_sem]; done)
  refine hK2 _ _ _ ?_; clear hK2
  refine AW.ret ?_
  rw [← hQr]
  simp only [go_sem, reduceIte, reduceCtorEq, Nat.reduceAdd, Nat.reduceMul, Nat.reduceEqDiff, Nat.reduceLT, Nat.reduceLeDiff, Nat.reduceSub, Nat.reducePow, Nat.reduceBEq, Int.reduceToNat, List.reduceReplicate]
  exact Wk.of_eq (by simp)
theorem badpr_r (n : Int) (p : Int × Int) : Reads Try.prog 45 false [.agg (pairV p), .rptr [.fn 43 [.rptr [.int .i64 n]]]] (.bool (badPr n p)) := by
  have h := in_r n
  unfold pairV
  refine Reads.body (rs := [.tmp 3]) Try.func45 rfl Try.ntmps45 rfl (by simp) ?_
  generalize hQr : retQ _ _ _ = Qr
  refine AW.seq fun K1 hK1 => ?_
  -- region 0
  refine AW.regionK 0 (fun _ => none) [1, 2] [2] ?_
  simp only [go_sem, reduceIte, reduceCtorEq, Nat.reduceAdd, Nat.reduceMul, Nat.reduceEqDiff, Nat.reduceLT, Nat.reduceLeDiff, Nat.reduceSub, Nat.reducePow, Nat.reduceBEq, Int.reduceToNat, List.reduceReplicate]
  repeat with_reducible refine cj ?_ ?_
  all_goals try first | omega
  refine hK1 _ _ _ ?_; clear hK1
  refine AW.seq fun K2 hK2 => ?_
  -- region 1
  refine AW.regionK 0 (fun ii => if ii = 3 then some (.reads false (.bool (decide (0 ≤ p.1) && decide (p.1 < n)))) else if ii = 9 then some (.reads false (.bool (decide (0 ≤ p.2) && decide (p.2 < n)))) else none) [3] [] ?_
  simp only [go_sem, reduceIte, reduceCtorEq, Nat.reduceAdd, Nat.reduceMul, Nat.reduceEqDiff, Nat.reduceLT, Nat.reduceLeDiff, Nat.reduceSub, Nat.reducePow, Nat.reduceBEq, Int.reduceToNat, List.reduceReplicate]
  repeat with_reducible refine cj ?_ ?_
  all_goals try first | (first | exact h p.1 | (intro hh; exact ⟨hh, h p.2⟩)) | (intros; (repeat' apply And.intro) <;> first | assumption | (first | exact h p.1 | (intro hh; exact ⟨hh, h p.2⟩))) | omega | exact ent (by kernel_rfl) | (intro hgd; exact absurd hgd (by decide)) | rfl | (simp only [go_sem, reduceIte, reduceCtorEq, Nat.reduceAdd, Nat.reduceMul, Nat.reduceEqDiff, Nat.reduceLT, Nat.reduceLeDiff, Nat.reduceSub, Nat.reducePow, Nat.reduceBEq, Int.reduceToNat, List.reduceReplicate]; done) | (intro _hgd; simp_all [go_sem]; done)
  refine hK2 _ _ _ ?_; clear hK2
  refine AW.ret ?_
  rw [← hQr]
  simp only [go_sem, reduceIte, reduceCtorEq, Nat.reduceAdd, Nat.reduceMul, Nat.reduceEqDiff, Nat.reduceLT, Nat.reduceLeDiff, Nat.reduceSub, Nat.reducePow, Nat.reduceBEq, Int.reduceToNat, List.reduceReplicate]
  exact Wk.of_eq (by unfold badPr; simp)
theorem ixpr_r (n : Int) (ns : List (Int × Int)) (hl2 : ns.length ≤ 9223372036854775807) : Reads Try.prog 60 false [.rsl 2 (ns.map pairV), .fn 45 [.rptr [.fn 43 [.rptr [.int .i64 n]]]]] (.int .i64 (ixf (badPr n) ns)) := by
  have hbp := fun p => badpr_r n p
  refine Reads.body (rs := [.tmp 4]) Try.func60 rfl Try.ntmps60 rfl (by simp) ?_
  generalize hQr : retQ _ _ _ = Qr
  refine AW.seq fun K1 hK1 => ?_
  -- region 0
  refine AW.regionK 0 (fun _ => none) [0, 1] [] ?_
  simp only [go_sem, reduceIte, reduceCtorEq, Nat.reduceAdd, Nat.reduceMul, Nat.reduceEqDiff, Nat.reduceLT, Nat.reduceLeDiff, Nat.reduceSub, Nat.reducePow, Nat.reduceBEq, Int.reduceToNat, List.reduceReplicate]
  repeat with_reducible refine cj ?_ ?_
  all_goals try first | omega
  refine hK1 _ _ _ ?_; clear hK1
  refine AW.seq fun K2 hK2 => ?_
  refine AW.seq fun K3 hK3 => ?_
  -- region 1
  refine AW.regionK 0 (fun _ => none) [0, 1, 7, 8] [] ?_
  simp only [go_sem, reduceIte, reduceCtorEq, Nat.reduceAdd, Nat.reduceMul, Nat.reduceEqDiff, Nat.reduceLT, Nat.reduceLeDiff, Nat.reduceSub, Nat.reducePow, Nat.reduceBEq, Int.reduceToNat, List.reduceReplicate]
  repeat with_reducible refine cj ?_ ?_
  all_goals try first | omega
  refine hK3 _ _ _ ?_; clear hK3
  refine AW.block ?_
  -- loop 1
  refine AW.loopE (fun mm ee ss kk => ∃ (j : Nat), ns.length - j = mm ∧ ee = [(0, .rsl 2 (ns.map pairV)), (1, .fn 45 [.rptr [.fn 43 [.rptr [.int .i64 n]]]]), (7, .int .i64 ns.length), (8, .int .i64 (j : Nat))] ∧ ss = [] ∧ (j ≤ ns.length ∧ (ns.take j).any (badPr n) = false)) ?_ ?_
  · refine ⟨_, 0, rfl, ?henv, ?hstore, ?hst⟩
    case henv =>
      repeat' (first | rfl | refine env_cons ?_ ?_ | refine st_cons ?_ ?_ ?_ ?_ | refine int_eq ?_ | refine bool_eq ?_ | refine rsl_eq ?_ | refine osl_eq ?_ | refine sl_eq ?_ ?_ ?_ | refine ptr_eq ?_ ?_ ?_ | refine agg_eq ?_ | refine es_cons ?_ ?_ | refine row_cons ?_ ?_)
      all_goals (first | (simp; done) | omega | (simp; omega))
    case hstore =>
      repeat' (first | rfl | refine env_cons ?_ ?_ | refine st_cons ?_ ?_ ?_ ?_ | refine int_eq ?_ | refine bool_eq ?_ | refine rsl_eq ?_ | refine osl_eq ?_ | refine sl_eq ?_ ?_ ?_ | refine ptr_eq ?_ ?_ ?_ | refine agg_eq ?_ | refine es_cons ?_ ?_ | refine row_cons ?_ ?_)
      all_goals (first | (simp; done) | omega | (simp; omega))
    case hst =>
      first | trivial | omega | (simp; done) | (simp; omega)
  rintro mm ee ss kk ⟨j, rfl, rfl, rfl, hI⟩
  generalize hQl1 : thenQ _ _ = Ql1
  obtain ⟨hj, hall⟩ := hI
  refine AW.seq fun K4 hK4 => ?_
  -- region 2
  refine AW.regionK 0 (fun _ => none) [0, 1, 7, 8, 9] [] ?_
  simp only [go_sem, reduceIte, reduceCtorEq, Nat.reduceAdd, Nat.reduceMul, Nat.reduceEqDiff, Nat.reduceLT, Nat.reduceLeDiff, Nat.reduceSub, Nat.reducePow, Nat.reduceBEq, Int.reduceToNat, List.reduceReplicate]
  repeat with_reducible refine cj ?_ ?_
  all_goals try first | omega
  refine hK4 _ _ _ ?_; clear hK4
  refine AW.seq fun K5 hK5 => ?_
  -- cond 1
  refine AW.cond rfl (by simp only [go_sem, reduceIte, reduceCtorEq, Nat.reduceAdd, Nat.reduceMul, Nat.reduceEqDiff, Nat.reduceLT, Nat.reduceLeDiff, Nat.reduceSub, Nat.reducePow, Nat.reduceBEq, Int.reduceToNat, List.reduceReplicate]) ?_ ?_
  · intro hb
    try simp only [hB, decide_eq_true_eq, decide_eq_false_iff_not] at hb
    obtain ⟨x, hx⟩ := getI (l := ns) (j := j) (by omega)
    have hgx := getV (f := pairV) hx
    have hats := any_take_succ (p := badPr n) hx
    have hbx := hbp x
    unfold pairV at hbx
    refine AW.skip ?_
    refine hK5 _ _ _ ?_; clear hK5
    refine AW.seq fun K6 hK6 => ?_
    refine AW.block ?_
    refine AW.seq fun K7 hK7 => ?_
    -- region 3
    refine AW.regionK 0 (fun _ => none) [0, 1, 5, 7, 8] [] ?_
    simp only [go_sem, reduceIte, reduceCtorEq, Nat.reduceAdd, Nat.reduceMul, Nat.reduceEqDiff, Nat.reduceLT, Nat.reduceLeDiff, Nat.reduceSub, Nat.reducePow, Nat.reduceBEq, Int.reduceToNat, List.reduceReplicate]
    repeat with_reducible refine cj ?_ ?_
    all_goals try first | omega
    refine hK7 _ _ _ ?_; clear hK7
    refine AW.seq fun K8 hK8 => ?_
    -- region 4
    refine AW.regionK 0 (fun ii => if ii = 5 then some (.reads false (.bool (badPr n x))) else none) [0, 1, 5, 7, 8, 16] [] ?_
    simp only [go_sem, reduceIte, reduceCtorEq, Nat.reduceAdd, Nat.reduceMul, Nat.reduceEqDiff, Nat.reduceLT, Nat.reduceLeDiff, Nat.reduceSub, Nat.reducePow, Nat.reduceBEq, Int.reduceToNat, List.reduceReplicate, hgx, pairV]
    repeat with_reducible refine cj ?_ ?_
    all_goals try first | (exact hbx) | omega | exact ent (by kernel_rfl)
    refine hK8 _ _ _ ?_; clear hK8
    -- cond 2
    refine AW.cond rfl (by simp only [go_sem, reduceIte, reduceCtorEq, Nat.reduceAdd, Nat.reduceMul, Nat.reduceEqDiff, Nat.reduceLT, Nat.reduceLeDiff, Nat.reduceSub, Nat.reducePow, Nat.reduceBEq, Int.reduceToNat, List.reduceReplicate]) ?_ ?_
    · intro hb
      try simp only [hB, decide_eq_true_eq, decide_eq_false_iff_not] at hb
      refine AW.seq fun K9 hK9 => ?_
      -- region 5
      refine AW.regionK 0 (fun _ => none) [4] [] ?_
      simp only [go_sem, reduceIte, reduceCtorEq, Nat.reduceAdd, Nat.reduceMul, Nat.reduceEqDiff, Nat.reduceLT, Nat.reduceLeDiff, Nat.reduceSub, Nat.reducePow, Nat.reduceBEq, Int.reduceToNat, List.reduceReplicate]
      repeat with_reducible refine cj ?_ ?_
      all_goals try first | omega
      refine hK9 _ _ _ ?_; clear hK9
      refine AW.ret ?_
      rw [← hQl1]
      rw [← hQr]
      simp only [go_sem, reduceIte, reduceCtorEq, Nat.reduceAdd, Nat.reduceMul, Nat.reduceEqDiff, Nat.reduceLT, Nat.reduceLeDiff, Nat.reduceSub, Nat.reducePow, Nat.reduceBEq, Int.reduceToNat, List.reduceReplicate]
      exact Wk.of_eq (by rw [ixf_at hx hb hall])
    · intro hb
      try simp only [hB, decide_eq_true_eq, decide_eq_false_iff_not] at hb
      refine AW.skip ?_
      refine hK6 _ _ _ ?_; clear hK6
      -- region 6
      refine AW.regionK 0 (fun _ => none) [0, 1, 7, 8] [] ?_
      simp only [go_sem, reduceIte, reduceCtorEq, Nat.reduceAdd, Nat.reduceMul, Nat.reduceEqDiff, Nat.reduceLT, Nat.reduceLeDiff, Nat.reduceSub, Nat.reducePow, Nat.reduceBEq, Int.reduceToNat, List.reduceReplicate]
      repeat with_reducible refine cj ?_ ?_
      all_goals try first | omega
      rw [← hQl1]
      change Exists _
      refine ⟨_, ?hm, j + 1, rfl, ?henv, ?hstore, ?hst⟩
      case henv =>
        repeat' (first | rfl | refine env_cons ?_ ?_ | refine st_cons ?_ ?_ ?_ ?_ | refine int_eq ?_ | refine bool_eq ?_ | refine rsl_eq ?_ | refine osl_eq ?_ | refine sl_eq ?_ ?_ ?_ | refine ptr_eq ?_ ?_ ?_ | refine agg_eq ?_ | refine es_cons ?_ ?_ | refine row_cons ?_ ?_)
        all_goals (first | (simp; done) | omega | (simp; omega))
      case hstore =>
        repeat' (first | rfl | refine env_cons ?_ ?_ | refine st_cons ?_ ?_ ?_ ?_ | refine int_eq ?_ | refine bool_eq ?_ | refine rsl_eq ?_ | refine osl_eq ?_ | refine sl_eq ?_ ?_ ?_ | refine ptr_eq ?_ ?_ ?_ | refine agg_eq ?_ | refine es_cons ?_ ?_ | refine row_cons ?_ ?_)
        all_goals (first | (simp; done) | omega | (simp; omega))
      case hst =>
        exact ⟨by omega, by rw [hats, hall, hb]; rfl⟩
      case hm => omega
  · intro hb
    try simp only [hB, decide_eq_true_eq, decide_eq_false_iff_not] at hb
    refine AW.keep [] [] ?_
    try simp only [go_sem, reduceIte, reduceCtorEq, Nat.reduceAdd, Nat.reduceMul, Nat.reduceEqDiff, Nat.reduceLT, Nat.reduceLeDiff, Nat.reduceSub, Nat.reducePow, Nat.reduceBEq, Int.reduceToNat, List.reduceReplicate]
    refine AW.exit ?_
    rw [← hQl1]
    refine hK2 _ _ _ ?_; clear hK2
    refine AW.seq fun K10 hK10 => ?_
    -- region 7
    refine AW.regionK 0 (fun _ => none) [4] [] ?_
    simp only [go_sem, reduceIte, reduceCtorEq, Nat.reduceAdd, Nat.reduceMul, Nat.reduceEqDiff, Nat.reduceLT, Nat.reduceLeDiff, Nat.reduceSub, Nat.reducePow, Nat.reduceBEq, Int.reduceToNat, List.reduceReplicate]
    repeat with_reducible refine cj ?_ ?_
    all_goals try first | omega
    refine hK10 _ _ _ ?_; clear hK10
    refine AW.ret ?_
    rw [← hQr]
    simp only [go_sem, reduceIte, reduceCtorEq, Nat.reduceAdd, Nat.reduceMul, Nat.reduceEqDiff, Nat.reduceLT, Nat.reduceLeDiff, Nat.reduceSub, Nat.reducePow, Nat.reduceBEq, Int.reduceToNat, List.reduceReplicate]
    exact Wk.of_eq (by rw [List.take_of_length_le (by omega)] at hall; rw [ixf_none hall])
theorem ctpr_r (n : Int) (ns : List (Int × Int)) (hl2 : ns.length ≤ 9223372036854775807) : Reads Try.prog 44 false [.rsl 2 (ns.map pairV), .fn 45 [.rptr [.fn 43 [.rptr [.int .i64 n]]]]] (.bool (ns.any (badPr n))) := by
  have h := ixpr_r n ns hl2
  have hge := ixf_ge (badPr n) ns
  refine Reads.body (rs := [.tmp 4]) Try.func44 rfl Try.ntmps44 rfl (by simp) ?_
  generalize hQr : retQ _ _ _ = Qr
  refine AW.seq fun K1 hK1 => ?_
  -- region 0
  refine AW.regionK 0 (fun _ => none) [0, 1] [] ?_
  simp only [go_sem, reduceIte, reduceCtorEq, Nat.reduceAdd, Nat.reduceMul, Nat.reduceEqDiff, Nat.reduceLT, Nat.reduceLeDiff, Nat.reduceSub, Nat.reducePow, Nat.reduceBEq, Int.reduceToNat, List.reduceReplicate]
  repeat with_reducible refine cj ?_ ?_
  all_goals try first | omega
  refine hK1 _ _ _ ?_; clear hK1
  refine AW.seq fun K2 hK2 => ?_
  -- region 1
  refine AW.regionK 0 (fun ii => if ii = 2 then some (.reads false (.int .i64 (ixf (badPr n) ns))) else none) [4] [] ?_
  simp only [go_sem, reduceIte, reduceCtorEq, Nat.reduceAdd, Nat.reduceMul, Nat.reduceEqDiff, Nat.reduceLT, Nat.reduceLeDiff, Nat.reduceSub, Nat.reducePow, Nat.reduceBEq, Int.reduceToNat, List.reduceReplicate]
  repeat with_reducible refine cj ?_ ?_
  all_goals try first | (exact h) | omega | exact ent (by kernel_rfl)
  refine hK2 _ _ _ ?_; clear hK2
  refine AW.ret ?_
  rw [← hQr]
  simp only [go_sem, reduceIte, reduceCtorEq, Nat.reduceAdd, Nat.reduceMul, Nat.reduceEqDiff, Nat.reduceLT, Nat.reduceLeDiff, Nat.reduceSub, Nat.reducePow, Nat.reduceBEq, Int.reduceToNat, List.reduceReplicate]
  exact Wk.of_eq (by rw [hge])
theorem make_g (n : Nat) (ns : List (Int × Int)) (hl2 : ns.length ≤ 9223372036854775807) (hn : n ≤ 512) (hin : ∀ p ∈ ns, inP n p) : Reads Try.prog 11 false [.int .i64 n, .rsl 2 (ns.map pairV)] (.tup [relB (putL (zeroT n) ns), .int .i64 ((0 : Nat) : Int)]) := by
  have h := Reads.flat (ctpr_r n ns hl2) rfl
  have hnb : ns.any (badPr n) = false := by
    rw [List.any_eq_false]; intro p hp
    have := hin p hp
    unfold inP at this
    simp [badPr]; omega
  rw [hnb] at h
  have hemp := empty_u n hn
  have hsq := fun j => Sq.putL (n := n) (ns.take j) (Sq.rep n) (fun p hp => hin p (List.mem_of_mem_take hp))
  unfold relB
  refine Reads.body (rs := [.cell 4 24, .tmp 5]) Try.func11 rfl Try.ntmps11 rfl (by simp) ?_
  generalize hQr : retQ _ _ _ = Qr
  refine AW.seq fun K1 hK1 => ?_
  -- region 0
  refine AW.regionK 0 (fun _ => none) [1, 2, 4] [2, 4] ?_
  simp only [go_sem, reduceIte, reduceCtorEq, Nat.reduceAdd, Nat.reduceMul, Nat.reduceEqDiff, Nat.reduceLT, Nat.reduceLeDiff, Nat.reduceSub, Nat.reducePow, Nat.reduceBEq, Int.reduceToNat, List.reduceReplicate, renC_tabO]
  repeat with_reducible refine cj ?_ ?_
  all_goals try first | omega
  refine hK1 _ _ _ ?_; clear hK1
  refine AW.seq fun K2 hK2 => ?_
  -- region 1
  refine AW.regionK 0 (fun _ => none) [1, 2, 4, 6] [2, 4, 6] ?_
  simp only [go_sem, reduceIte, reduceCtorEq, Nat.reduceAdd, Nat.reduceMul, Nat.reduceEqDiff, Nat.reduceLT, Nat.reduceLeDiff, Nat.reduceSub, Nat.reducePow, Nat.reduceBEq, Int.reduceToNat, List.reduceReplicate, renC_tabO]
  repeat with_reducible refine cj ?_ ?_
  all_goals try first | omega
  refine hK2 _ _ _ ?_; clear hK2
  refine AW.seq fun K3 hK3 => ?_
  refine AW.seq fun K4 hK4 => ?_
  -- region 2
  refine AW.regionK 0 (fun ii => if ii = 9 then some (.reads true (.bool false)) else none) [1, 2, 4, 21] [2, 4] ?_
  simp only [go_sem, reduceIte, reduceCtorEq, Nat.reduceAdd, Nat.reduceMul, Nat.reduceEqDiff, Nat.reduceLT, Nat.reduceLeDiff, Nat.reduceSub, Nat.reducePow, Nat.reduceBEq, Int.reduceToNat, List.reduceReplicate, renC_tabO]
  repeat with_reducible refine cj ?_ ?_
  all_goals try first | ((intro hh; exact ⟨hh, h⟩)) | (intros; (repeat' apply And.intro) <;> first | assumption | ((intro hh; exact ⟨hh, h⟩))) | omega | exact ent (by kernel_rfl) | (intro hgd; exact absurd hgd (by decide)) | rfl | (simp only [go_sem, reduceIte, reduceCtorEq, Nat.reduceAdd, Nat.reduceMul, Nat.reduceEqDiff, Nat.reduceLT, Nat.reduceLeDiff, Nat.reduceSub, Nat.reducePow, Nat.reduceBEq, Int.reduceToNat, List.reduceReplicate, renC_tabO]; done) | (intro _hgd; simp_all [go_sem]; done)
  refine hK4 _ _ _ ?_; clear hK4
  -- cond 1
  refine AW.cond rfl (by simp only [go_sem, reduceIte, reduceCtorEq, Nat.reduceAdd, Nat.reduceMul, Nat.reduceEqDiff, Nat.reduceLT, Nat.reduceLeDiff, Nat.reduceSub, Nat.reducePow, Nat.reduceBEq, Int.reduceToNat, List.reduceReplicate]) ?_ ?_
  · intro hb
    try simp only [hB, decide_eq_true_eq, decide_eq_false_iff_not] at hb
    exfalso; first | omega | (simp at hb; omega)
  · intro hb
    try simp only [hB, decide_eq_true_eq, decide_eq_false_iff_not] at hb
    refine AW.skip ?_
    refine hK3 _ _ _ ?_; clear hK3
    refine AW.seq fun K5 hK5 => ?_
    -- region 4
    refine AW.regionK 0 (fun ii => if ii = 1 then some (.upd [] (fun k => [(0, some ⟨k, k, 2, tabO (List.replicate n (List.replicate n false))⟩)]) (fun k => .agg [.sl ⟨0, k, none⟩ 0 n none])) else none) [1, 4, 7] [4, 7, 24] ?_
    simp only [go_sem, reduceIte, reduceCtorEq, Nat.reduceAdd, Nat.reduceMul, Nat.reduceEqDiff, Nat.reduceLT, Nat.reduceLeDiff, Nat.reduceSub, Nat.reducePow, Nat.reduceBEq, Int.reduceToNat, List.reduceReplicate, renC_tabO]
    repeat with_reducible refine cj ?_ ?_
    all_goals try first | (exact hemp) | omega | exact ent (by kernel_rfl)
    refine hK5 _ _ _ ?_; clear hK5
    refine AW.seq fun K6 hK6 => ?_
    refine AW.seq fun K7 hK7 => ?_
    -- region 5
    refine AW.regionK 0 (fun _ => none) [4, 7, 25, 26, 27] [4, 7, 24] ?_
    simp only [go_sem, reduceIte, reduceCtorEq, Nat.reduceAdd, Nat.reduceMul, Nat.reduceEqDiff, Nat.reduceLT, Nat.reduceLeDiff, Nat.reduceSub, Nat.reducePow, Nat.reduceBEq, Int.reduceToNat, List.reduceReplicate, renC_tabO]
    repeat with_reducible refine cj ?_ ?_
    all_goals try first | omega
    refine hK7 _ _ _ ?_; clear hK7
    refine AW.block ?_
    -- loop 1
    refine AW.loopE (fun mm ee ss kk => ∃ (j g4 v4 g7 v7 g v : Nat), ns.length - j = mm ∧ ee = [(4, .ptr ⟨4, g4, none⟩ 0 0), (7, .ptr ⟨7, g7, none⟩ 0 0), (25, .rsl 2 (ns.map pairV)), (26, .int .i64 ns.length), (27, .int .i64 (j : Nat))] ∧ ss = [(4, some ⟨g4, v4, 1, [[.nilsl]]⟩), (7, some ⟨g7, v7, 1, [[.sl ⟨24, g, none⟩ 0 n none]]⟩), (24, some ⟨g, v, 2, tabO (putL (zeroT n) (ns.take j))⟩)] ∧ (j ≤ ns.length)) ?_ ?_
    · refine ⟨_, 0, ?_, ?_, ?_, ?_, ?_, ?_, rfl, ?henv, ?hstore, ?hst⟩
      case henv =>
        repeat' (first | rfl | refine env_cons ?_ ?_ | refine st_cons ?_ ?_ ?_ ?_ | refine int_eq ?_ | refine bool_eq ?_ | refine rsl_eq ?_ | refine osl_eq ?_ | refine sl_eq ?_ ?_ ?_ | refine ptr_eq ?_ ?_ ?_ | refine agg_eq ?_ | refine es_cons ?_ ?_ | refine row_cons ?_ ?_)
        all_goals (first | (simp; done) | omega | (simp; omega))
      case hstore =>
        repeat' (first | rfl | refine env_cons ?_ ?_ | refine st_cons ?_ ?_ ?_ ?_ | refine int_eq ?_ | refine bool_eq ?_ | refine rsl_eq ?_ | refine osl_eq ?_ | refine sl_eq ?_ ?_ ?_ | refine ptr_eq ?_ ?_ ?_ | refine agg_eq ?_ | refine es_cons ?_ ?_ | refine row_cons ?_ ?_)
        all_goals (first | (simp; done) | omega | (simp; omega))
      case hst =>
        first | trivial | omega | (simp; done) | (simp; omega)
    rintro mm ee ss kk ⟨j, g4, v4, g7, v7, g, v, rfl, rfl, rfl, hI⟩
    generalize hQl1 : thenQ _ _ = Ql1
    refine AW.seq fun K8 hK8 => ?_
    -- region 6
    refine AW.regionK 0 (fun _ => none) [4, 7, 25, 26, 27, 28] [4, 7, 24] ?_
    simp only [go_sem, reduceIte, reduceCtorEq, Nat.reduceAdd, Nat.reduceMul, Nat.reduceEqDiff, Nat.reduceLT, Nat.reduceLeDiff, Nat.reduceSub, Nat.reducePow, Nat.reduceBEq, Int.reduceToNat, List.reduceReplicate, renC_tabO]
    repeat with_reducible refine cj ?_ ?_
    all_goals try first | omega
    refine hK8 _ _ _ ?_; clear hK8
    refine AW.seq fun K9 hK9 => ?_
    -- cond 2
    refine AW.cond rfl (by simp only [go_sem, reduceIte, reduceCtorEq, Nat.reduceAdd, Nat.reduceMul, Nat.reduceEqDiff, Nat.reduceLT, Nat.reduceLeDiff, Nat.reduceSub, Nat.reducePow, Nat.reduceBEq, Int.reduceToNat, List.reduceReplicate]) ?_ ?_
    · intro hb
      try simp only [hB, decide_eq_true_eq, decide_eq_false_iff_not] at hb
      obtain ⟨p, hp⟩ := getI (l := ns) (j := j) (by omega)
      have hgp := getV (f := pairV) hp
      have hip := hin p (List.mem_of_getElem? hp)
      have hpt := putL_take (u := zeroT n) hp
      have hsu := hsq j
      change Sq n (putL (zeroT n) _) at hsu
      unfold inP at hip
      generalize putL (zeroT n) (ns.take j) = U at *
      have hpu := fun g v => put_u n U hsu hn p.1.toNat p.2.toNat (by omega) (by omega) g v none
      rw [Int.toNat_of_nonneg hip.1, Int.toNat_of_nonneg hip.2.2.1] at hpu
      unfold putT at hpt
      refine AW.skip ?_
      refine hK9 _ _ _ ?_; clear hK9
      refine AW.seq fun K10 hK10 => ?_
      refine AW.block ?_
      refine AW.seq fun K11 hK11 => ?_
      -- region 7
      refine AW.regionK 0 (fun _ => none) [4, 7, 9, 25, 26, 27] [4, 7, 9, 24] ?_
      simp only [go_sem, reduceIte, reduceCtorEq, Nat.reduceAdd, Nat.reduceMul, Nat.reduceEqDiff, Nat.reduceLT, Nat.reduceLeDiff, Nat.reduceSub, Nat.reducePow, Nat.reduceBEq, Int.reduceToNat, List.reduceReplicate, renC_tabO, hgp, pairV]
      repeat with_reducible refine cj ?_ ?_
      all_goals try first | omega
      refine hK11 _ _ _ ?_; clear hK11
      -- region 8
      refine AW.regionK 0 (fun ii => if ii = 5 then some (.upd [24] (fun kk => [(0, some ⟨g, kk, 2, tabO (U.set p.1.toNat ((rowT U p.1.toNat).set p.2.toNat true))⟩)]) (fun _ => .tup [])) else none) [4, 7, 25, 26, 27] [4, 7, 24] ?_
      simp only [go_sem, reduceIte, reduceCtorEq, Nat.reduceAdd, Nat.reduceMul, Nat.reduceEqDiff, Nat.reduceLT, Nat.reduceLeDiff, Nat.reduceSub, Nat.reducePow, Nat.reduceBEq, Int.reduceToNat, List.reduceReplicate, renC_tabO]
      repeat with_reducible refine cj ?_ ?_
      all_goals try first | (exact hpu _ _) | omega | exact ent (by kernel_rfl)
      refine hK10 _ _ _ ?_; clear hK10
      -- region 9
      refine AW.regionK 0 (fun _ => none) [4, 7, 25, 26, 27] [4, 7, 24] ?_
      simp only [go_sem, reduceIte, reduceCtorEq, Nat.reduceAdd, Nat.reduceMul, Nat.reduceEqDiff, Nat.reduceLT, Nat.reduceLeDiff, Nat.reduceSub, Nat.reducePow, Nat.reduceBEq, Int.reduceToNat, List.reduceReplicate, renC_tabO]
      repeat with_reducible refine cj ?_ ?_
      all_goals try first | omega
      rw [← hQl1]
      change Exists _
      refine ⟨_, ?hm, j + 1, ?_, ?_, ?_, ?_, ?_, ?_, rfl, ?henv, ?hstore, ?hst⟩
      case henv =>
        repeat' (first | rfl | refine env_cons ?_ ?_ | refine st_cons ?_ ?_ ?_ ?_ | refine int_eq ?_ | refine bool_eq ?_ | refine rsl_eq ?_ | refine osl_eq ?_ | refine sl_eq ?_ ?_ ?_ | refine ptr_eq ?_ ?_ ?_ | refine agg_eq ?_ | refine es_cons ?_ ?_ | refine row_cons ?_ ?_)
        all_goals (first | (simp; done) | omega | (simp; omega))
      case hstore =>
        repeat' (first | rfl | refine env_cons ?_ ?_ | refine st_cons ?_ ?_ ?_ ?_ | refine int_eq ?_ | refine bool_eq ?_ | refine rsl_eq ?_ | refine osl_eq ?_ | refine sl_eq ?_ ?_ ?_ | refine ptr_eq ?_ ?_ ?_ | refine agg_eq ?_ | refine es_cons ?_ ?_ | refine row_cons ?_ ?_)
        all_goals (rw [hpt])
      case hst =>
        first | trivial | omega | (simp; done) | (simp; omega)
      case hm => omega
    · intro hb
      try simp only [hB, decide_eq_true_eq, decide_eq_false_iff_not] at hb
      refine AW.keep [4, 7] [4, 7, 24] ?_
      try simp only [go_sem, reduceIte, reduceCtorEq, Nat.reduceAdd, Nat.reduceMul, Nat.reduceEqDiff, Nat.reduceLT, Nat.reduceLeDiff, Nat.reduceSub, Nat.reducePow, Nat.reduceBEq, Int.reduceToNat, List.reduceReplicate]
      refine AW.exit ?_
      rw [← hQl1]
      refine hK6 _ _ _ ?_; clear hK6
      refine AW.seq fun K12 hK12 => ?_
      -- region 10
      refine AW.regionK 0 (fun _ => none) [4, 5] [4, 24] ?_
      simp only [go_sem, reduceIte, reduceCtorEq, Nat.reduceAdd, Nat.reduceMul, Nat.reduceEqDiff, Nat.reduceLT, Nat.reduceLeDiff, Nat.reduceSub, Nat.reducePow, Nat.reduceBEq, Int.reduceToNat, List.reduceReplicate, renC_tabO]
      repeat with_reducible refine cj ?_ ?_
      all_goals try first | omega
      refine hK12 _ _ _ ?_; clear hK12
      refine AW.ret ?_
      rw [← hQr]
      simp only [go_sem, reduceIte, reduceCtorEq, Nat.reduceAdd, Nat.reduceMul, Nat.reduceEqDiff, Nat.reduceLT, Nat.reduceLeDiff, Nat.reduceSub, Nat.reducePow, Nat.reduceBEq, Int.reduceToNat, List.reduceReplicate, renC_tabO]
      have hj2 : j = ns.length := by omega
      subst hj2
      have hfl : ns.take ns.length = ns := List.take_of_length_le (Nat.le_refl _)
      have hsz := hsq ns.length
      rw [hfl] at *
      refine Wk.of_eq ?_
      rw [List.take_of_length_le (by rw [tabO_len]; exact Nat.le_of_eq hsz.len), vwc_tabO]
      rfl
end Go.Proofs.R

/- More on tables: what the reference computes. -/
namespace Go.AM
theorem eqB_ne {α : Type} [DecidableEq α] {a b : List α} {j : Nat} {x y : α} (ha : a[j]? = some x) (hb : b[j]? = some y) (h : x ≠ y) : a ≠ b := by
  intro e; subst e; rw [ha] at hb; exact h (Option.some.inj hb)
theorem take_succ_eqA {α : Type} {a b : List α} {j : Nat} {x : α} (ha : a[j]? = some x) (hb : b[j]? = some x) (h : a.take j = b.take j) : a.take (j + 1) = b.take (j + 1) := by
  obtain ⟨h1, h2⟩ := List.getElem?_eq_some_iff.1 ha
  obtain ⟨h3, h4⟩ := List.getElem?_eq_some_iff.1 hb
  rw [List.take_succ_eq_append_getElem h1, List.take_succ_eq_append_getElem h3, h, h2, h4]
/-- A row of truths takes another one up to a place. -/
def orB (a b : List Bool) (j : Nat) : List Bool := List.zipWith (· || ·) (a.take j) (b.take j) ++ a.drop j
theorem orB_zero (a b : List Bool) : orB a b 0 = a := by simp [orB]
theorem orB_len {a b : List Bool} (h : a.length = b.length) (j : Nat) : (orB a b j).length = a.length := by simp [orB]; omega
theorem orB_all {a b : List Bool} (h : a.length = b.length) {j : Nat} (hj : a.length ≤ j) : orB a b j = List.zipWith (· || ·) a b := by
  unfold orB; rw [List.take_of_length_le hj, List.take_of_length_le (by omega), List.drop_of_length_le hj]; simp
theorem orB_get {a b : List Bool} (h : a.length = b.length) {j k : Nat} (hk : j ≤ k) : (orB a b j).getD k false = a.getD k false := by
  unfold orB
  by_cases hj : j ≤ a.length
  · have hl : (List.zipWith (· || ·) (a.take j) (b.take j)).length = j := by simp; omega
    rw [List.getD_eq_getElem?_getD, List.getElem?_append_right (by omega), hl, List.getElem?_drop, List.getD_eq_getElem?_getD]
    congr 2; omega
  · rw [List.drop_of_length_le (by omega), List.append_nil, Go.AM.getD_out (by simp; omega), Go.AM.getD_out (by omega)]
theorem orB_succ {a b : List Bool} (h : a.length = b.length) {j : Nat} (hj : j < a.length) : orB a b (j + 1) = (orB a b j).set j (a.getD j false || b.getD j false) := by
  unfold orB
  have hl : (List.zipWith (· || ·) (a.take j) (b.take j)).length = j := by simp; omega
  rw [List.set_append_right _ _ (Nat.le_of_eq hl), hl, Nat.sub_self, List.drop_eq_getElem_cons hj, List.set_cons_zero, List.take_succ_eq_append_getElem hj, List.take_succ_eq_append_getElem (show j < b.length by omega), List.zipWith_append (by simp; omega)]
  simp [List.getD_eq_getElem?_getD, hj, show j < b.length by omega]
/-- One step: what the reference does at a place. -/
theorem orB_step {a b : List Bool} (h : a.length = b.length) {j : Nat} (hj : j < a.length) : orB a b (j + 1) = if b.getD j false then (orB a b j).set j true else orB a b j := by
  rw [orB_succ h hj]
  cases hb : b.getD j false with
  | true => simp
  | false =>
    rw [Bool.or_false, ← orB_get h (Nat.le_refl j)]
    simp only [Bool.false_eq_true, if_false]
    refine List.ext_getElem? fun k => ?_
    rw [List.getElem?_set]
    split
    · rename_i hk; subst hk
      have : j < (orB a b j).length := by rw [orB_len h]; exact hj
      simp [this, List.getD_eq_getElem?_getD]
    · rfl
def fillB (b : List Bool) (n i : Nat) : List Bool := b.take i ++ List.replicate (n - i) false
theorem fillB_zero (b : List Bool) (n : Nat) : fillB b n 0 = List.replicate n false := by simp [fillB]
theorem fillB_len {b : List Bool} {n i : Nat} (h : b.length = n) (hi : i ≤ n) : (fillB b n i).length = n := by simp [fillB]; omega
theorem fillB_all {b : List Bool} {n : Nat} (h : b.length = n) : fillB b n n = b := by unfold fillB; rw [List.take_of_length_le (by omega)]; simp
theorem fillB_succ {b : List Bool} {n i : Nat} (h : b.length = n) (hi : i < n) : (fillB b n i).set i (b.getD i false) = fillB b n (i + 1) := by
  unfold fillB
  have hl : (b.take i).length = i := by simp; omega
  rw [List.set_append_right _ _ (by omega), hl, Nat.sub_self, show n - i = (n - (i + 1)) + 1 by omega, List.replicate_succ, List.set_cons_zero, List.take_succ_eq_append_getElem (show i < b.length by omega), List.append_assoc]
  simp [List.getD_eq_getElem?_getD, show i < b.length by omega]
theorem take_succT {t : List (List Bool)} {i : Nat} (h : i < t.length) : t.take (i + 1) = t.take i ++ [rowT t i] := by
  obtain ⟨h1, h2⟩ := List.getElem?_eq_some_iff.1 (rowT_get h)
  rw [List.take_succ_eq_append_getElem h1, h2]
theorem app_get {α : Type} (l : List (List α)) (x : List α) {i : Nat} (h : l.length = i) : (l ++ [x]).getD i [] = x := by
  rw [List.getD_eq_getElem?_getD, List.getElem?_append_right (by omega), h]; simp
theorem app_set {α : Type} (l : List α) (x y : α) {i : Nat} (h : l.length = i) : (l ++ [x]).set i y = l ++ [y] := by
  rw [List.set_append_right _ _ (by omega), h]; simp
theorem app_len {α : Type} (l : List α) (x : α) {i : Nat} (h : l.length = i) : (l ++ [x]).length = i + 1 := by simp [h]
theorem noOsl_bools (l : List Bool) : noOsl (bools l) := noOsl_map (f := fun x : Bool => [AV.bool x]) (fun x i sz q e => by
  rcases i with _ | i <;> simp at e) l
section
variable (s : Store) (d : Nat)
theorem vwcF_rowsO (t : List (List Bool)) : (rowsO t).map (fun cs => cs.map (vwcF s (d + 1))) = rowsR t := by
  have e : ∀ b : List Bool, (bools b).map (fun row => row.map (vwF s (d + 1))) = bools b := fun b => by
    have : ∀ x : Bool, vwF s (d + 1) (.bool x) = .bool x := fun x => rfl
    simp [bools, this]
  simp [rowsO, rowsR, vwcF_osl, e]
end
end Go.AM

namespace Go.Proofs.R
open Go.AM Go
set_option maxRecDepth 100000
set_option maxHeartbeats 1000000
theorem table_r (n : Nat) (t : List (List Bool)) (hs : Sq n t) (hn : n ≤ 512) : Reads Try.prog 24 true [relB t] (.rsl 1 (rowsR t)) := by
  have hlen := hs.len
  have hrl := tabR_len t
  have hwn := wordsN_rng (n := (n : Int)) (by omega)
  unfold relB
  refine Reads.bodyF (rs := [.tmp 2]) Try.func24 rfl Try.ntmps24 rfl (by simp) ?_
  generalize hQr : retQ _ _ _ = Qr
  refine AW.seq fun K1 hK1 => ?_
  -- region 0
  refine AW.regionK 0 (fun _ => none) [1] [1] ?_
  simp only [go_sem, reduceIte, reduceCtorEq, Nat.reduceAdd, Nat.reduceMul, Nat.reduceEqDiff, Nat.reduceLT, Nat.reduceLeDiff, Nat.reduceSub, Nat.reducePow, Nat.reduceBEq, Int.reduceToNat, List.reduceReplicate, hrl, hlen]
  repeat with_reducible refine cj ?_ ?_
  all_goals try first | omega
  refine hK1 _ _ _ ?_; clear hK1
  refine AW.seq fun K2 hK2 => ?_
  -- region 1
  refine AW.regionK 0 (fun _ => none) [1, 3] [1] ?_
  simp only [go_sem, reduceIte, reduceCtorEq, Nat.reduceAdd, Nat.reduceMul, Nat.reduceEqDiff, Nat.reduceLT, Nat.reduceLeDiff, Nat.reduceSub, Nat.reducePow, Nat.reduceBEq, Int.reduceToNat, List.reduceReplicate, hrl, hlen]
  repeat with_reducible refine cj ?_ ?_
  all_goals try first | omega
  refine hK2 _ _ _ ?_; clear hK2
  refine AW.seq fun K3 hK3 => ?_
  -- region 2
  refine AW.regionK 0 (fun _ => none) [1, 3, 4] [1] ?_
  simp only [go_sem, reduceIte, reduceCtorEq, Nat.reduceAdd, Nat.reduceMul, Nat.reduceEqDiff, Nat.reduceLT, Nat.reduceLeDiff, Nat.reduceSub, Nat.reducePow, Nat.reduceBEq, Int.reduceToNat, List.reduceReplicate, hrl, hlen]
  repeat with_reducible refine cj ?_ ?_
  all_goals try first | omega
  refine hK3 _ _ _ ?_; clear hK3
  refine AW.seq fun K4 hK4 => ?_
  refine AW.seq fun K5 hK5 => ?_
  -- region 3
  refine AW.regionK 0 (fun _ => none) [1, 3, 4, 5] [1] ?_
  simp only [go_sem, reduceIte, reduceCtorEq, Nat.reduceAdd, Nat.reduceMul, Nat.reduceEqDiff, Nat.reduceLT, Nat.reduceLeDiff, Nat.reduceSub, Nat.reducePow, Nat.reduceBEq, Int.reduceToNat, List.reduceReplicate, hrl, hlen]
  repeat with_reducible refine cj ?_ ?_
  all_goals try first | omega
  refine hK5 _ _ _ ?_; clear hK5
  refine AW.block ?_
  refine AW.nilOwn 4 200 1 (by simp only [go_sem, reduceIte, Nat.reduceEqDiff]) ?_
  refine AW.keep [1, 3, 4, 5] [1, 200] ?_
  simp only [go_sem, reduceIte, Nat.reduceEqDiff]
  -- loop 1
  refine AW.loopE (fun mm ee ss kk => ∃ (i g1 v1 g v : Nat), n - i = mm ∧ ee = [(1, .ptr ⟨1, g1, none⟩ 0 0), (3, .int .i64 n), (4, .sl ⟨200, g, none⟩ 0 i none), (5, .int .i64 (i : Nat))] ∧ ss = [(1, some ⟨g1, v1, 1, [[.rsl 2 (tabR t)]]⟩), (200, some ⟨g, v, 1, rowsO (t.take i)⟩)] ∧ (i ≤ n)) ?_ ?_
  · refine ⟨_, 0, ?_, ?_, ?_, ?_, rfl, ?henv, ?hstore, ?hst⟩
    case henv =>
      repeat' (first | rfl | refine env_cons ?_ ?_ | refine st_cons ?_ ?_ ?_ ?_ | refine int_eq ?_ | refine bool_eq ?_ | refine rsl_eq ?_ | refine osl_eq ?_ | refine sl_eq ?_ ?_ ?_ | refine ptr_eq ?_ ?_ ?_ | refine agg_eq ?_ | refine es_cons ?_ ?_ | refine row_cons ?_ ?_)
      all_goals (first | (simp; done) | omega | (simp; omega))
    case hstore =>
      repeat' (first | rfl | refine env_cons ?_ ?_ | refine st_cons ?_ ?_ ?_ ?_ | refine int_eq ?_ | refine bool_eq ?_ | refine rsl_eq ?_ | refine osl_eq ?_ | refine sl_eq ?_ ?_ ?_ | refine ptr_eq ?_ ?_ ?_ | refine agg_eq ?_ | refine es_cons ?_ ?_ | refine row_cons ?_ ?_)
      all_goals (first | (simp; done) | omega | (simp; omega))
    case hst =>
      first | trivial | omega | (simp; done) | (simp; omega)
  rintro mm ee ss kk ⟨i, g1, v1, g, v, rfl, rfl, rfl, hI⟩
  generalize hQl1 : thenQ _ _ = Ql1
  refine AW.seq fun K6 hK6 => ?_
  refine AW.seq fun K7 hK7 => ?_
  -- region 4
  refine AW.regionK 0 (fun _ => none) [1, 3, 4, 5, 13] [1, 200] ?_
  simp only [go_sem, reduceIte, reduceCtorEq, Nat.reduceAdd, Nat.reduceMul, Nat.reduceEqDiff, Nat.reduceLT, Nat.reduceLeDiff, Nat.reduceSub, Nat.reducePow, Nat.reduceBEq, Int.reduceToNat, List.reduceReplicate, hrl, hlen]
  repeat with_reducible refine cj ?_ ?_
  all_goals try first | omega
  refine hK7 _ _ _ ?_; clear hK7
  -- cond 1
  refine AW.cond rfl (by simp only [go_sem, reduceIte, reduceCtorEq, Nat.reduceAdd, Nat.reduceMul, Nat.reduceEqDiff, Nat.reduceLT, Nat.reduceLeDiff, Nat.reduceSub, Nat.reducePow, Nat.reduceBEq, Int.reduceToNat, List.reduceReplicate]) ?_ ?_
  · intro hb
    try simp only [hB, decide_eq_true_eq, decide_eq_false_iff_not] at hb
    have hgr := tabR_get (t := t) (i := i) (by omega)
    have hrw := hs.rowLen (i := i) (by omega)
    have hti := take_succT (t := t) (i := i) (by omega)
    have htl : (rowsO (t.take i)).length = i := by rw [rowsO_len]; simp; omega
    have htk : (rowsO (t.take i)).take i = rowsO (t.take i) := List.take_of_length_le (by omega)
    generalize hb' : rowT t i = b at *
    have hap := rowsO_app (t.take i) b
    have hgl := fun x => app_get (rowsO (t.take i)) x htl
    have hsl := fun x y => app_set (rowsO (t.take i)) x y htl
    have hll := fun x => app_len (rowsO (t.take i)) x htl
    have hwl := setW_len' b
    rw [hrw] at hwl
    refine AW.skip ?_
    refine hK6 _ _ _ ?_; clear hK6
    refine AW.seq fun K8 hK8 => ?_
    refine AW.block ?_
    refine AW.seq fun K9 hK9 => ?_
    -- region 6
    refine AW.regionK 0 (fun _ => none) [1, 3, 4, 5, 6] [1, 17, 200] ?_
    simp only [go_sem, reduceIte, reduceCtorEq, Nat.reduceAdd, Nat.reduceMul, Nat.reduceEqDiff, Nat.reduceLT, Nat.reduceLeDiff, Nat.reduceSub, Nat.reducePow, Nat.reduceBEq, Int.reduceToNat, List.reduceReplicate, hrl, hlen]
    repeat with_reducible refine cj ?_ ?_
    all_goals try first | omega
    refine hK9 _ _ _ ?_; clear hK9
    refine AW.seq fun K10 hK10 => ?_
    refine AW.seq fun K11 hK11 => ?_
    -- region 7
    refine AW.regionK 0 (fun _ => none) [1, 3, 4, 5, 6, 7] [1, 17, 200] ?_
    simp only [go_sem, reduceIte, reduceCtorEq, Nat.reduceAdd, Nat.reduceMul, Nat.reduceEqDiff, Nat.reduceLT, Nat.reduceLeDiff, Nat.reduceSub, Nat.reducePow, Nat.reduceBEq, Int.reduceToNat, List.reduceReplicate, hrl, hlen]
    repeat with_reducible refine cj ?_ ?_
    all_goals try first | omega
    refine hK11 _ _ _ ?_; clear hK11
    refine AW.block ?_
    -- loop 2
    refine AW.loopE (fun mm ee ss kk => ∃ (j g1 v1 g17 v17 g v : Nat), n - j = mm ∧ ee = [(1, .ptr ⟨1, g1, none⟩ 0 0), (3, .int .i64 n), (4, .sl ⟨200, g, none⟩ 0 i none), (5, .int .i64 (i : Nat)), (6, .sl ⟨17, g17, none⟩ 0 n none), (7, .int .i64 (j : Nat))] ∧ ss = [(1, some ⟨g1, v1, 1, [[.rsl 2 (tabR t)]]⟩), (17, some ⟨g17, v17, 1, bools (fillB b n j)⟩), (200, some ⟨g, v, 1, rowsO (t.take i)⟩)] ∧ (j ≤ n)) ?_ ?_
    · refine ⟨_, 0, ?_, ?_, ?_, ?_, ?_, ?_, rfl, ?henv, ?hstore, ?hst⟩
      case henv =>
        repeat' (first | rfl | refine env_cons ?_ ?_ | refine st_cons ?_ ?_ ?_ ?_ | refine int_eq ?_ | refine bool_eq ?_ | refine rsl_eq ?_ | refine osl_eq ?_ | refine sl_eq ?_ ?_ ?_ | refine ptr_eq ?_ ?_ ?_ | refine agg_eq ?_ | refine es_cons ?_ ?_ | refine row_cons ?_ ?_)
        all_goals (first | (simp; done) | omega | (simp; omega))
      case hstore =>
        repeat' (first | rfl | refine env_cons ?_ ?_ | refine st_cons ?_ ?_ ?_ ?_ | refine int_eq ?_ | refine bool_eq ?_ | refine rsl_eq ?_ | refine osl_eq ?_ | refine sl_eq ?_ ?_ ?_ | refine ptr_eq ?_ ?_ ?_ | refine agg_eq ?_ | refine es_cons ?_ ?_ | refine row_cons ?_ ?_)
        all_goals (rw [fillB_zero]; simp [bools])
      case hst =>
        first | trivial | omega | (simp; done) | (simp; omega)
    rintro mm ee ss kk ⟨j, g1, v1, g17, v17, g, v, rfl, rfl, rfl, hI⟩
    generalize hQl2 : thenQ _ _ = Ql2
    refine AW.seq fun K12 hK12 => ?_
    refine AW.seq fun K13 hK13 => ?_
    -- region 8
    refine AW.regionK 0 (fun _ => none) [1, 3, 4, 5, 6, 7, 20] [1, 17, 200] ?_
    simp only [go_sem, reduceIte, reduceCtorEq, Nat.reduceAdd, Nat.reduceMul, Nat.reduceEqDiff, Nat.reduceLT, Nat.reduceLeDiff, Nat.reduceSub, Nat.reducePow, Nat.reduceBEq, Int.reduceToNat, List.reduceReplicate, hrl, hlen]
    repeat with_reducible refine cj ?_ ?_
    all_goals try first | omega
    refine hK13 _ _ _ ?_; clear hK13
    -- cond 2
    refine AW.cond rfl (by simp only [go_sem, reduceIte, reduceCtorEq, Nat.reduceAdd, Nat.reduceMul, Nat.reduceEqDiff, Nat.reduceLT, Nat.reduceLeDiff, Nat.reduceSub, Nat.reducePow, Nat.reduceBEq, Int.reduceToNat, List.reduceReplicate]) ?_ ?_
    · intro hb
      try simp only [hB, decide_eq_true_eq, decide_eq_false_iff_not] at hb
      have hd := div64_rng (i := (j : Int)) (n := n) (by omega) (by omega)
      have hgw := words_getD (l := setW b n) (i := ((j : Int).tdiv 64).toNat) (by omega)
      have hwr : IntKind.u64.wrap ((j : Int).tmod 64) = (j : Int).tmod 64 := by simp [IntKind.wrap, IntKind.signed, IntKind.bits]; omega
      have hhw := hasW_row (b := b) (j := j) (by omega)
      unfold hasW at hhw
      rw [hrw] at hhw
      have hfs := fillB_succ hrw (i := j) (by omega)
      have hfl := fillB_len hrw (i := j) (by omega)
      refine AW.skip ?_
      refine hK12 _ _ _ ?_; clear hK12
      refine AW.seq fun K14 hK14 => ?_
      refine AW.block ?_
      -- region 10
      refine AW.regionK 0 (fun _ => none) [1, 3, 4, 5, 6, 7] [1, 17, 200] ?_
      simp only [go_sem, reduceIte, reduceCtorEq, Nat.reduceAdd, Nat.reduceMul, Nat.reduceEqDiff, Nat.reduceLT, Nat.reduceLeDiff, Nat.reduceSub, Nat.reducePow, Nat.reduceBEq, Int.reduceToNat, List.reduceReplicate, hrl, hlen, hgr, rowB, hrw, hgw, hwr, hhw, hfl]
      repeat with_reducible refine cj ?_ ?_
      all_goals try first | omega
      refine hK14 _ _ _ ?_; clear hK14
      -- region 9
      refine AW.regionK 0 (fun _ => none) [1, 3, 4, 5, 6, 7] [1, 17, 200] ?_
      simp only [go_sem, reduceIte, reduceCtorEq, Nat.reduceAdd, Nat.reduceMul, Nat.reduceEqDiff, Nat.reduceLT, Nat.reduceLeDiff, Nat.reduceSub, Nat.reducePow, Nat.reduceBEq, Int.reduceToNat, List.reduceReplicate, hrl, hlen]
      repeat with_reducible refine cj ?_ ?_
      all_goals try first | omega
      rw [← hQl2]
      change Exists _
      refine ⟨_, ?hm, j + 1, ?_, ?_, ?_, ?_, ?_, ?_, rfl, ?henv, ?hstore, ?hst⟩
      case henv =>
        repeat' (first | rfl | refine env_cons ?_ ?_ | refine st_cons ?_ ?_ ?_ ?_ | refine int_eq ?_ | refine bool_eq ?_ | refine rsl_eq ?_ | refine osl_eq ?_ | refine sl_eq ?_ ?_ ?_ | refine ptr_eq ?_ ?_ ?_ | refine agg_eq ?_ | refine es_cons ?_ ?_ | refine row_cons ?_ ?_)
        all_goals (first | (simp; done) | omega | (simp; omega))
      case hstore =>
        repeat' (first | rfl | refine env_cons ?_ ?_ | refine st_cons ?_ ?_ ?_ ?_ | refine int_eq ?_ | refine bool_eq ?_ | refine rsl_eq ?_ | refine osl_eq ?_ | refine sl_eq ?_ ?_ ?_ | refine ptr_eq ?_ ?_ ?_ | refine agg_eq ?_ | refine es_cons ?_ ?_ | refine row_cons ?_ ?_)
        all_goals (rw [← hfs])
      case hst =>
        first | trivial | omega | (simp; done) | (simp; omega)
      case hm => omega
    · intro hb
      try simp only [hB, decide_eq_true_eq, decide_eq_false_iff_not] at hb
      have hj : j = n := by omega
      subst hj
      rw [fillB_all hrw]
      refine AW.exit ?_
      rw [← hQl2]
      refine hK10 _ _ _ ?_; clear hK10
      -- region 11
      refine AW.regionK 0 (fun _ => none) [1, 3, 4, 5] [1, 17, 200] ?_
      simp only [go_sem, reduceIte, reduceCtorEq, Nat.reduceAdd, Nat.reduceMul, Nat.reduceEqDiff, Nat.reduceLT, Nat.reduceLeDiff, Nat.reduceSub, Nat.reducePow, Nat.reduceBEq, Int.reduceToNat, List.reduceReplicate, hrl, hlen, htk, htl]
      repeat with_reducible refine cj ?_ ?_
      all_goals try first | omega | (simp [scP, scalar]; done) | exact scP_words _ | exact scP_ints _ | exact scP_bools _
      refine hK8 _ _ _ ?_; clear hK8
      refine AW.adoptK 200 i 0 17 ?_
      simp only [go_sem, reduceIte, Nat.reduceEqDiff, hgl, hsl, hll]
      refine ⟨by decide, by rw [hrw], noOsl_bools _, ?_⟩
      refine AW.keep [1, 3, 4, 5] [1, 200] ?_
      simp only [go_sem, reduceIte, Nat.reduceEqDiff, hap]
      -- region 5
      refine AW.regionK 0 (fun _ => none) [1, 3, 4, 5] [1, 200] ?_
      simp only [go_sem, reduceIte, reduceCtorEq, Nat.reduceAdd, Nat.reduceMul, Nat.reduceEqDiff, Nat.reduceLT, Nat.reduceLeDiff, Nat.reduceSub, Nat.reducePow, Nat.reduceBEq, Int.reduceToNat, List.reduceReplicate, hrl, hlen]
      repeat with_reducible refine cj ?_ ?_
      all_goals try first | omega
      rw [← hQl1]
      change Exists _
      refine ⟨_, ?hm, i + 1, ?_, ?_, ?_, ?_, rfl, ?henv, ?hstore, ?hst⟩
      case henv =>
        repeat' (first | rfl | refine env_cons ?_ ?_ | refine st_cons ?_ ?_ ?_ ?_ | refine int_eq ?_ | refine bool_eq ?_ | refine rsl_eq ?_ | refine osl_eq ?_ | refine sl_eq ?_ ?_ ?_ | refine ptr_eq ?_ ?_ ?_ | refine agg_eq ?_ | refine es_cons ?_ ?_ | refine row_cons ?_ ?_)
        all_goals (first | (simp; done) | omega | (simp; omega))
      case hstore =>
        repeat' (first | rfl | refine env_cons ?_ ?_ | refine st_cons ?_ ?_ ?_ ?_ | refine int_eq ?_ | refine bool_eq ?_ | refine rsl_eq ?_ | refine osl_eq ?_ | refine sl_eq ?_ ?_ ?_ | refine ptr_eq ?_ ?_ ?_ | refine agg_eq ?_ | refine es_cons ?_ ?_ | refine row_cons ?_ ?_)
        all_goals (rw [hti])
      case hst =>
        first | trivial | omega | (simp; done) | (simp; omega)
      case hm => omega
  · intro hb
    try simp only [hB, decide_eq_true_eq, decide_eq_false_iff_not] at hb
    refine AW.exit ?_
    rw [← hQl1]
    refine hK4 _ _ _ ?_; clear hK4
    refine AW.seq fun K15 hK15 => ?_
    -- region 12
    refine AW.regionK 0 (fun _ => none) [2] [200] ?_
    simp only [go_sem, reduceIte, reduceCtorEq, Nat.reduceAdd, Nat.reduceMul, Nat.reduceEqDiff, Nat.reduceLT, Nat.reduceLeDiff, Nat.reduceSub, Nat.reducePow, Nat.reduceBEq, Int.reduceToNat, List.reduceReplicate, hrl, hlen]
    repeat with_reducible refine cj ?_ ?_
    all_goals try first | omega
    refine hK15 _ _ _ ?_; clear hK15
    refine AW.ret ?_
    rw [← hQr]
    simp only [go_sem, reduceIte, reduceCtorEq, Nat.reduceAdd, Nat.reduceMul, Nat.reduceEqDiff, Nat.reduceLT, Nat.reduceLeDiff, Nat.reduceSub, Nat.reducePow, Nat.reduceBEq, Int.reduceToNat, List.reduceReplicate, hrl, hlen]
    have hi : i = n := by omega
    subst hi
    rw [List.take_of_length_le (by omega : t.length ≤ i), List.take_of_length_le (by rw [rowsO_len]; omega), vwcF_rowsO]
    exact Wk.refl _
end Go.Proofs.R

namespace Go.Proofs.R
open Go.AM Go
set_option maxRecDepth 100000
set_option maxHeartbeats 1000000
end Go.Proofs.R

