/- Lemmas and contracts, part 4: an abstract machine over the model, and the functions that the statement reaches. -/
import Derived.Test.YtadfdoalifmkhaaMatchingBergeP3
set_option linter.unusedVariables false
set_option linter.unusedSimpArgs false
namespace Go.Proofs.M
open Go.AM Go
set_option maxRecDepth 100000
set_option maxHeartbeats 2000000
theorem bools_out {l : List Bool} {i : Nat} (h : l.length ≤ i) : (bools l).getD i [] = [] := Go.AM.getD_out (by rw [bools_len]; exact h) _
theorem ismat_r {n m : Nat} (hn : n ≤ 512) (hm : m ≤ 512) (E P : List (Int × Int)) (hE : ∀ e ∈ E, edgeIn n m e = true) (hlE : E.length ≤ 9223372036854775807) (hlP : P.length ≤ 9223372036854775807) :
    Reads Try.prog 18 false [.int .i64 n, .int .i64 m, .rsl 2 (E.map pairV), .rsl 2 (P.map pairV)] (.bool (isMat E P)) := by
  have hz1 : List.replicate n [AV.bool false] = bools (flagM (·.1) n []) := by rw [flagM_nil]; simp [bools]
  have hz2 : List.replicate m [AV.bool false] = bools (flagM (·.2) m []) := by rw [flagM_nil]; simp [bools]
  refine Reads.body (rs := [.tmp 8]) Try.func18 rfl Try.ntmps18 rfl (by simp) ?_
  generalize hQr : retQ _ _ _ = Qr
  refine AW.seq fun K1 hK1 => ?_
  -- region 0
  refine AW.regionK 0 (fun _ => none) [0, 1, 2, 3] [] ?_
  simp only [go_sem, reduceIte, reduceCtorEq, Nat.reduceAdd, Nat.reduceMul, Nat.reduceEqDiff, Nat.reduceLT, Nat.reduceLeDiff, Nat.reduceSub, Nat.reducePow, Nat.reduceBEq, Int.reduceToNat, List.reduceReplicate]
  repeat with_reducible refine cj ?_ ?_
  all_goals try first | omega
  refine hK1 _ _ _ ?_; clear hK1
  refine AW.seq fun K2 hK2 => ?_
  -- region 1
  refine AW.regionD mixed 0 (fun _ => none) [2, 3, 9, 10] [13, 15] ?_
  simp only [go_sem, reduceIte, reduceCtorEq, Nat.reduceAdd, Nat.reduceMul, Nat.reduceEqDiff, Nat.reduceLT, Nat.reduceLeDiff, Nat.reduceSub, Nat.reducePow, Nat.reduceBEq, Int.reduceToNat, List.reduceReplicate, hz1, hz2]
  repeat with_reducible refine cj ?_ ?_
  all_goals try first | omega | exact chk (by kernel_rfl)
  refine hK2 _ _ _ ?_; clear hK2
  refine AW.seq fun K3 hK3 => ?_
  refine AW.seq fun K4 hK4 => ?_
  -- region 2
  refine AW.regionK 0 (fun _ => none) [2, 3, 9, 10, 11] [13, 15] ?_
  simp only [go_sem, reduceIte, reduceCtorEq, Nat.reduceAdd, Nat.reduceMul, Nat.reduceEqDiff, Nat.reduceLT, Nat.reduceLeDiff, Nat.reduceSub, Nat.reducePow, Nat.reduceBEq, Int.reduceToNat, List.reduceReplicate]
  repeat with_reducible refine cj ?_ ?_
  all_goals try first | omega
  refine hK4 _ _ _ ?_; clear hK4
  refine AW.block ?_
  -- loop 1
  refine AW.loopE (fun mm ee ss kk => ∃ (j g1 v1 g2 v2 : Nat), P.length - j = mm ∧ ee = [(2, .rsl 2 (E.map pairV)), (3, .rsl 2 (P.map pairV)), (9, .sl ⟨13, g1, none⟩ 0 n none), (10, .sl ⟨15, g2, none⟩ 0 m none), (11, .int .i64 (j : Nat))] ∧ ss = [(13, some ⟨g1, v1, 1, bools (flagM (·.1) n (P.take j))⟩), (15, some ⟨g2, v2, 1, bools (flagM (·.2) m (P.take j))⟩)] ∧ (j ≤ P.length ∧ (∀ p ∈ P.take j, p ∈ E) ∧ ((P.take j).map (·.1)).Nodup ∧ ((P.take j).map (·.2)).Nodup)) ?_ ?_
  · refine ⟨_, 0, ?_, ?_, ?_, ?_, rfl, ?henv, ?hstore, ?hst⟩
    case henv =>
      repeat' (first | rfl | refine env_cons ?_ ?_ | refine st_cons ?_ ?_ ?_ ?_ | refine int_eq ?_ | refine bool_eq ?_ | refine rsl_eq ?_ | refine osl_eq ?_ | refine sl_eq ?_ ?_ ?_ | refine ptr_eq ?_ ?_ ?_ | refine agg_eq ?_ | refine es_cons ?_ ?_ | refine row_cons ?_ ?_)
      all_goals (first | (simp; done) | omega | (simp; omega))
    case hstore =>
      repeat' (first | rfl | refine env_cons ?_ ?_ | refine st_cons ?_ ?_ ?_ ?_ | refine int_eq ?_ | refine bool_eq ?_ | refine rsl_eq ?_ | refine osl_eq ?_ | refine sl_eq ?_ ?_ ?_ | refine ptr_eq ?_ ?_ ?_ | refine agg_eq ?_ | refine es_cons ?_ ?_ | refine row_cons ?_ ?_)
      all_goals (first | (simp; done) | omega | (simp; omega))
    case hst =>
      exact ⟨by omega, by simp, by simp, by simp⟩
  rintro mm ee ss kk ⟨j, g1, v1, g2, v2, rfl, rfl, rfl, hI⟩
  generalize hQl1 : thenQ _ _ = Ql1
  obtain ⟨hj, hin, hd1, hd2⟩ := hI
  have hA := flagM_len (·.1) n (P.take j)
  have hB2 := flagM_len (·.2) m (P.take j)
  refine AW.seq fun K5 hK5 => ?_
  refine AW.seq fun K6 hK6 => ?_
  -- region 3
  refine AW.regionK 0 (fun _ => none) [2, 3, 9, 10, 11, 19] [13, 15] ?_
  simp only [go_sem, reduceIte, reduceCtorEq, Nat.reduceAdd, Nat.reduceMul, Nat.reduceEqDiff, Nat.reduceLT, Nat.reduceLeDiff, Nat.reduceSub, Nat.reducePow, Nat.reduceBEq, Int.reduceToNat, List.reduceReplicate]
  repeat with_reducible refine cj ?_ ?_
  all_goals try first | omega
  refine hK6 _ _ _ ?_; clear hK6
  -- cond 1
  refine AW.cond rfl (by simp only [go_sem, reduceIte, reduceCtorEq, Nat.reduceAdd, Nat.reduceMul, Nat.reduceEqDiff, Nat.reduceLT, Nat.reduceLeDiff, Nat.reduceSub, Nat.reducePow, Nat.reduceBEq, Int.reduceToNat, List.reduceReplicate]) ?_ ?_
  · intro hb
    try simp only [hB, decide_eq_true_eq, decide_eq_false_iff_not] at hb
    obtain ⟨p, hp⟩ := getI (l := P) (j := j) (by omega)
    have hgp := getV (f := pairV) hp
    have hha := has_r E p hlE
    unfold pairV at hha
    have hpv : (fun p : Int × Int => [AV.int .i64 p.1, AV.int .i64 p.2]) = pairV := rfl
    rw [hpv] at hha
    have hts : P.take (j + 1) = P.take j ++ [p] := by rw [List.take_add_one, hp]; rfl
    have hgf1 := flagM_get (·.1) (n := n) (l := P.take j) (i := p.1)
    have hgf2 := flagM_get (·.2) (n := m) (l := P.take j) (i := p.2)
    have hs1 := flagM_snoc (·.1) (n := n) (l := P.take j) (p := p)
    have hs2 := flagM_snoc (·.2) (n := m) (l := P.take j) (p := p)
    have hcA : (0 ≤ p.1 ∧ p.1 < n ∧ (bools (flagM (·.1) n (P.take j))).getD p.1.toNat [] = [.bool ((P.take j).any fun q => decide (q.1 = p.1))]) ∨ ∃ X, (X = [] ∨ ∃ b, X = [AV.bool b]) ∧ (bools (flagM (·.1) n (P.take j))).getD p.1.toNat [] = X ∧ ¬ (0 ≤ p.1 ∧ p.1 < n) := by
      by_cases h : 0 ≤ p.1 ∧ p.1 < n
      · exact .inl ⟨h.1, h.2, by rw [bools_getD (by rw [hA]; omega), hgf1 h]⟩
      · right
        by_cases h2 : p.1.toNat < (flagM (·.1) n (P.take j)).length
        · exact ⟨_, .inr ⟨_, rfl⟩, bools_getD h2, h⟩
        · exact ⟨_, .inl rfl, bools_out (by omega), h⟩
    have hcB : (0 ≤ p.2 ∧ p.2 < m ∧ (bools (flagM (·.2) m (P.take j))).getD p.2.toNat [] = [.bool ((P.take j).any fun q => decide (q.2 = p.2))]) ∨ ∃ X, (X = [] ∨ ∃ b, X = [AV.bool b]) ∧ (bools (flagM (·.2) m (P.take j))).getD p.2.toNat [] = X ∧ ¬ (0 ≤ p.2 ∧ p.2 < m) := by
      by_cases h : 0 ≤ p.2 ∧ p.2 < m
      · exact .inl ⟨h.1, h.2, by rw [bools_getD (by rw [hB2]; omega), hgf2 h]⟩
      · right
        by_cases h2 : p.2.toNat < (flagM (·.2) m (P.take j)).length
        · exact ⟨_, .inr ⟨_, rfl⟩, bools_getD h2, h⟩
        · exact ⟨_, .inl rfl, bools_out (by omega), h⟩
    have hcase : (p ∈ E ∧ decide (p ∈ E) = true ∧ (0 ≤ p.1 ∧ p.1 < n ∧ 0 ≤ p.2 ∧ p.2 < m) ∧ (bools (flagM (·.1) n (P.take j))).getD p.1.toNat [] = [.bool ((P.take j).any fun q => decide (q.1 = p.1))] ∧ (bools (flagM (·.2) m (P.take j))).getD p.2.toNat [] = [.bool ((P.take j).any fun q => decide (q.2 = p.2))]) ∨
      (decide (p ∈ E) = false ∧ ∃ a b, (bools (flagM (·.1) n (P.take j))).getD p.1.toNat [] = [AV.bool a] ∧ (bools (flagM (·.2) m (P.take j))).getD p.2.toNat [] = [AV.bool b]) ∨
      (decide (p ∈ E) = false ∧ ∃ a, (bools (flagM (·.1) n (P.take j))).getD p.1.toNat [] = [AV.bool a] ∧ (bools (flagM (·.2) m (P.take j))).getD p.2.toNat [] = []) ∨
      (decide (p ∈ E) = false ∧ ∃ b, (bools (flagM (·.1) n (P.take j))).getD p.1.toNat [] = [] ∧ (bools (flagM (·.2) m (P.take j))).getD p.2.toNat [] = [AV.bool b]) ∨
      (decide (p ∈ E) = false ∧ (bools (flagM (·.1) n (P.take j))).getD p.1.toNat [] = [] ∧ (bools (flagM (·.2) m (P.take j))).getD p.2.toNat [] = []) := by
      by_cases hpe : p ∈ E
      · have hr := edgeIn_iff.1 (hE p hpe)
        refine .inl ⟨hpe, by simp [hpe], hr, ?_, ?_⟩
        · rw [bools_getD (by rw [hA]; omega), hgf1 (by omega)]
        · rw [bools_getD (by rw [hB2]; omega), hgf2 (by omega)]
      · have hd : decide (p ∈ E) = false := by simp [hpe]
        rcases hcA with ⟨_, _, h1⟩ | ⟨X, rfl | ⟨a, rfl⟩, h1, _⟩ <;> rcases hcB with ⟨_, _, h2⟩ | ⟨Y, rfl | ⟨b, rfl⟩, h2, _⟩
        · exact .inr (.inl ⟨hd, _, _, h1, h2⟩)
        · exact .inr (.inr (.inl ⟨hd, _, h1, h2⟩))
        · exact .inr (.inl ⟨hd, _, _, h1, h2⟩)
        · exact .inr (.inr (.inr (.inl ⟨hd, _, h1, h2⟩)))
        · exact .inr (.inr (.inr (.inr ⟨hd, h1, h2⟩)))
        · exact .inr (.inr (.inr (.inl ⟨hd, _, h1, h2⟩)))
        · exact .inr (.inl ⟨hd, _, _, h1, h2⟩)
        · exact .inr (.inr (.inl ⟨hd, _, h1, h2⟩))
        · exact .inr (.inl ⟨hd, _, _, h1, h2⟩)
    refine AW.skip ?_
    refine hK5 _ _ _ ?_; clear hK5
    refine AW.seq fun K7 hK7 => ?_
    refine AW.block ?_
    refine AW.seq fun K8 hK8 => ?_
    refine AW.seq fun K9 hK9 => ?_
    have hD5 : ∀  (kk : Nat), K9 [(2, .rsl 2 (E.map pairV)), (3, .rsl 2 (P.map pairV)), (9, .sl ⟨13, g1, none⟩ 0 n none), (10, .sl ⟨15, g2, none⟩ 0 m none), (11, .int .i64 (j : Nat)), (48, .bool (!decide (p ∈ E) || ((P.take j).any fun q => decide (q.1 = p.1)) || ((P.take j).any fun q => decide (q.2 = p.2))))] [(13, some ⟨g1, v1, 1, bools (flagM (·.1) n (P.take j))⟩), (15, some ⟨g2, v2, 1, bools (flagM (·.2) m (P.take j))⟩)] kk := by
      intro  kk
      refine hK9 _ _ _ ?_; clear hK9
      -- cond 2
      refine AW.cond rfl (by simp only [go_sem, reduceIte, reduceCtorEq, Nat.reduceAdd, Nat.reduceMul, Nat.reduceEqDiff, Nat.reduceLT, Nat.reduceLeDiff, Nat.reduceSub, Nat.reducePow, Nat.reduceBEq, Int.reduceToNat, List.reduceReplicate]) ?_ ?_
      · intro hb
        try simp only [hB, decide_eq_true_eq, decide_eq_false_iff_not] at hb
        refine AW.seq fun K12 hK12 => ?_
        -- region 6
        refine AW.regionK 0 (fun _ => none) [8] [] ?_
        simp only [go_sem, reduceIte, reduceCtorEq, Nat.reduceAdd, Nat.reduceMul, Nat.reduceEqDiff, Nat.reduceLT, Nat.reduceLeDiff, Nat.reduceSub, Nat.reducePow, Nat.reduceBEq, Int.reduceToNat, List.reduceReplicate]
        repeat with_reducible refine cj ?_ ?_
        all_goals try first | omega
        refine hK12 _ _ _ ?_; clear hK12
        refine AW.ret ?_
        rw [← hQl1]
        rw [← hQr]
        simp only [go_sem, reduceIte, reduceCtorEq, Nat.reduceAdd, Nat.reduceMul, Nat.reduceEqDiff, Nat.reduceLT, Nat.reduceLeDiff, Nat.reduceSub, Nat.reducePow, Nat.reduceBEq, Int.reduceToNat, List.reduceReplicate]
        have hnm : isMat E P = false := by
          have hpm := List.mem_of_getElem? hp
          by_cases hpe : p ∈ E
          · cases h1 : (P.take j).any fun q => decide (q.1 = p.1) with
            | true => have := map_not_nodup (f := (·.1)) hp h1; simp [isMat, this]
            | false => cases h2 : (P.take j).any fun q => decide (q.2 = p.2) with
              | true => have := map_not_nodup (f := (·.2)) hp h2; simp [isMat, this]
              | false => simp [hpe, h1, h2] at hb
          · have : (P.all fun p => decide (p ∈ E)) = false := by rw [List.all_eq_false]; exact ⟨p, hpm, by simp [hpe]⟩
            simp [isMat, this]
        exact Wk.of_eq (by rw [hnm])
      · intro hb
        try simp only [hB, decide_eq_true_eq, decide_eq_false_iff_not] at hb
        have hpe : p ∈ E := by
          by_cases h : p ∈ E
          · exact h
          · simp [h] at hb
        have hr := edgeIn_iff.1 (hE p hpe)
        have h1 : ((P.take j).any fun q => decide (q.1 = p.1)) = false := by cases h : (P.take j).any fun q => decide (q.1 = p.1) <;> first | rfl | simp [h] at hb
        have h2 : ((P.take j).any fun q => decide (q.2 = p.2)) = false := by cases h : (P.take j).any fun q => decide (q.2 = p.2) <;> first | rfl | simp [h] at hb
        have hu1 := bools_upd (flagM (·.1) n (P.take j)) p.1.toNat true
        have hu2 := bools_upd (flagM (·.2) m (P.take j)) p.2.toNat true
        have hs1' := hs1 (by omega)
        have hs2' := hs2 (by omega)
        rw [hs1', ← hts] at hu1
        rw [hs2', ← hts] at hu2
        refine AW.skip ?_
        refine hK8 _ _ _ ?_; clear hK8
        refine AW.seq fun K13 hK13 => ?_
        -- region 7
        refine AW.regionK 0 (fun _ => none) [2, 3, 9, 10, 11] [13, 15] ?_
        simp only [go_sem, reduceIte, reduceCtorEq, Nat.reduceAdd, Nat.reduceMul, Nat.reduceEqDiff, Nat.reduceLT, Nat.reduceLeDiff, Nat.reduceSub, Nat.reducePow, Nat.reduceBEq, Int.reduceToNat, List.reduceReplicate, hgp, pairV, bools_len, hA, hu1]
        repeat with_reducible refine cj ?_ ?_
        all_goals try first | omega
        refine hK13 _ _ _ ?_; clear hK13
        -- region 8
        refine AW.regionK 0 (fun _ => none) [2, 3, 9, 10, 11] [13, 15] ?_
        simp only [go_sem, reduceIte, reduceCtorEq, Nat.reduceAdd, Nat.reduceMul, Nat.reduceEqDiff, Nat.reduceLT, Nat.reduceLeDiff, Nat.reduceSub, Nat.reducePow, Nat.reduceBEq, Int.reduceToNat, List.reduceReplicate, hgp, pairV, bools_len, hB2, hu2]
        repeat with_reducible refine cj ?_ ?_
        all_goals try first | omega
        refine hK7 _ _ _ ?_; clear hK7
        -- region 4
        refine AW.regionK 0 (fun _ => none) [2, 3, 9, 10, 11] [13, 15] ?_
        simp only [go_sem, reduceIte, reduceCtorEq, Nat.reduceAdd, Nat.reduceMul, Nat.reduceEqDiff, Nat.reduceLT, Nat.reduceLeDiff, Nat.reduceSub, Nat.reducePow, Nat.reduceBEq, Int.reduceToNat, List.reduceReplicate]
        repeat with_reducible refine cj ?_ ?_
        all_goals try first | omega
        rw [← hQl1]
        change Exists _
        refine ⟨_, ?hm, j + 1, ?_, ?_, ?_, ?_, rfl, ?henv, ?hstore, ?hst⟩
        case henv =>
          repeat' (first | rfl | refine env_cons ?_ ?_ | refine st_cons ?_ ?_ ?_ ?_ | refine int_eq ?_ | refine bool_eq ?_ | refine rsl_eq ?_ | refine osl_eq ?_ | refine sl_eq ?_ ?_ ?_ | refine ptr_eq ?_ ?_ ?_ | refine agg_eq ?_ | refine es_cons ?_ ?_ | refine row_cons ?_ ?_)
          all_goals (first | (simp; done) | omega | (simp; omega))
        case hstore =>
          repeat' (first | rfl | refine env_cons ?_ ?_ | refine st_cons ?_ ?_ ?_ ?_ | refine int_eq ?_ | refine bool_eq ?_ | refine rsl_eq ?_ | refine osl_eq ?_ | refine sl_eq ?_ ?_ ?_ | refine ptr_eq ?_ ?_ ?_ | refine agg_eq ?_ | refine es_cons ?_ ?_ | refine row_cons ?_ ?_)
          all_goals (first | (simp; done) | omega | (simp; omega))
        case hst =>
          exact ⟨by omega, fun x hx => by rw [hts] at hx; rcases List.mem_append.1 hx with h | h; exact hin x h; simp only [List.mem_singleton] at h; subst h; exact hpe, by rw [hts]; exact map_nodup_snoc hd1 h1, by rw [hts]; exact map_nodup_snoc hd2 h2⟩
        case hm => omega
    rcases hcase with ⟨hpe, hdp, hr, hgA, hgB⟩ | ⟨hdp, a, b, hgA, hgB⟩ | ⟨hdp, a, hgA, hgB⟩ | ⟨hdp, b, hgA, hgB⟩ | ⟨hdp, hgA, hgB⟩
    · -- region 5
      refine AW.regionK 0 (fun ii => if ii = 5 then some (.reads false (.bool (decide (p ∈ E)))) else none) [2, 3, 9, 10, 11, 48] [13, 15] ?_
      simp only [go_sem, reduceIte, reduceCtorEq, Nat.reduceAdd, Nat.reduceMul, Nat.reduceEqDiff, Nat.reduceLT, Nat.reduceLeDiff, Nat.reduceSub, Nat.reducePow, Nat.reduceBEq, Int.reduceToNat, List.reduceReplicate, hgp, pairV, bools_len, hA, hB2, hdp, hgA, hgB]
      repeat with_reducible refine cj ?_ ?_
      all_goals try first | (first | (rw [hdp] at hha; exact hha) | (intro _; exact ⟨by omega, by omega⟩) | (intro _; omega) | (intros; (repeat' apply And.intro) <;> first | omega | trivial)) | (intros; (repeat' apply And.intro) <;> first | assumption | (first | (rw [hdp] at hha; exact hha) | (intro _; exact ⟨by omega, by omega⟩) | (intro _; omega) | (intros; (repeat' apply And.intro) <;> first | omega | trivial))) | omega | exact ent (by kernel_rfl) | (intro hgd; exact absurd hgd (by decide)) | rfl | (simp only [go_sem, reduceIte, reduceCtorEq, Nat.reduceAdd, Nat.reduceMul, Nat.reduceEqDiff, Nat.reduceLT, Nat.reduceLeDiff, Nat.reduceSub, Nat.reducePow, Nat.reduceBEq, Int.reduceToNat, List.reduceReplicate, hgp, pairV, bools_len, hA, hB2, hdp, hgA, hgB]; done) | (intro _hgd; simp_all [go_sem]; done)
      (have h5 := hD5; simp only [hdp, Bool.not_true, Bool.false_or] at h5; exact h5 _)
    · -- region 5
      refine AW.regionK 0 (fun ii => if ii = 5 then some (.reads false (.bool (decide (p ∈ E)))) else none) [2, 3, 9, 10, 11, 48] [13, 15] ?_
      simp only [go_sem, reduceIte, reduceCtorEq, Nat.reduceAdd, Nat.reduceMul, Nat.reduceEqDiff, Nat.reduceLT, Nat.reduceLeDiff, Nat.reduceSub, Nat.reducePow, Nat.reduceBEq, Int.reduceToNat, List.reduceReplicate, hgp, pairV, bools_len, hA, hB2, hdp, hgA, hgB]
      repeat with_reducible refine cj ?_ ?_
      all_goals try first | (first | (rw [hdp] at hha; exact hha) | (intro _; exact ⟨by omega, by omega⟩) | (intro _; omega) | (intros; (repeat' apply And.intro) <;> first | omega | trivial)) | (intros; (repeat' apply And.intro) <;> first | assumption | (first | (rw [hdp] at hha; exact hha) | (intro _; exact ⟨by omega, by omega⟩) | (intro _; omega) | (intros; (repeat' apply And.intro) <;> first | omega | trivial))) | omega | exact ent (by kernel_rfl) | (intro hgd; exact absurd hgd (by decide)) | rfl | (simp only [go_sem, reduceIte, reduceCtorEq, Nat.reduceAdd, Nat.reduceMul, Nat.reduceEqDiff, Nat.reduceLT, Nat.reduceLeDiff, Nat.reduceSub, Nat.reducePow, Nat.reduceBEq, Int.reduceToNat, List.reduceReplicate, hgp, pairV, bools_len, hA, hB2, hdp, hgA, hgB]; done) | (intro _hgd; simp_all [go_sem]; done)
      (have h5 := hD5; simp only [hdp, Bool.not_false, Bool.true_or] at h5; exact h5 _)
    · -- region 5
      refine AW.regionK 0 (fun ii => if ii = 5 then some (.reads false (.bool (decide (p ∈ E)))) else none) [2, 3, 9, 10, 11, 48] [13, 15] ?_
      simp only [go_sem, reduceIte, reduceCtorEq, Nat.reduceAdd, Nat.reduceMul, Nat.reduceEqDiff, Nat.reduceLT, Nat.reduceLeDiff, Nat.reduceSub, Nat.reducePow, Nat.reduceBEq, Int.reduceToNat, List.reduceReplicate, hgp, pairV, bools_len, hA, hB2, hdp, hgA, hgB]
      repeat with_reducible refine cj ?_ ?_
      all_goals try first | (first | (rw [hdp] at hha; exact hha) | (intro _; exact ⟨by omega, by omega⟩) | (intro _; omega) | (intros; (repeat' apply And.intro) <;> first | omega | trivial)) | (intros; (repeat' apply And.intro) <;> first | assumption | (first | (rw [hdp] at hha; exact hha) | (intro _; exact ⟨by omega, by omega⟩) | (intro _; omega) | (intros; (repeat' apply And.intro) <;> first | omega | trivial))) | omega | exact ent (by kernel_rfl) | (intro hgd; exact absurd hgd (by decide)) | rfl | (simp only [go_sem, reduceIte, reduceCtorEq, Nat.reduceAdd, Nat.reduceMul, Nat.reduceEqDiff, Nat.reduceLT, Nat.reduceLeDiff, Nat.reduceSub, Nat.reducePow, Nat.reduceBEq, Int.reduceToNat, List.reduceReplicate, hgp, pairV, bools_len, hA, hB2, hdp, hgA, hgB]; done) | (intro _hgd; simp_all [go_sem]; done)
      (have h5 := hD5; simp only [hdp, Bool.not_false, Bool.true_or] at h5; exact h5 _)
    · -- region 5
      refine AW.regionK 0 (fun ii => if ii = 5 then some (.reads false (.bool (decide (p ∈ E)))) else none) [2, 3, 9, 10, 11, 48] [13, 15] ?_
      simp only [go_sem, reduceIte, reduceCtorEq, Nat.reduceAdd, Nat.reduceMul, Nat.reduceEqDiff, Nat.reduceLT, Nat.reduceLeDiff, Nat.reduceSub, Nat.reducePow, Nat.reduceBEq, Int.reduceToNat, List.reduceReplicate, hgp, pairV, bools_len, hA, hB2, hdp, hgA, hgB]
      repeat with_reducible refine cj ?_ ?_
      all_goals try first | (first | (rw [hdp] at hha; exact hha) | (intro _; exact ⟨by omega, by omega⟩) | (intro _; omega) | (intros; (repeat' apply And.intro) <;> first | omega | trivial)) | (intros; (repeat' apply And.intro) <;> first | assumption | (first | (rw [hdp] at hha; exact hha) | (intro _; exact ⟨by omega, by omega⟩) | (intro _; omega) | (intros; (repeat' apply And.intro) <;> first | omega | trivial))) | omega | exact ent (by kernel_rfl) | (intro hgd; exact absurd hgd (by decide)) | rfl | (simp only [go_sem, reduceIte, reduceCtorEq, Nat.reduceAdd, Nat.reduceMul, Nat.reduceEqDiff, Nat.reduceLT, Nat.reduceLeDiff, Nat.reduceSub, Nat.reducePow, Nat.reduceBEq, Int.reduceToNat, List.reduceReplicate, hgp, pairV, bools_len, hA, hB2, hdp, hgA, hgB]; done) | (intro _hgd; simp_all [go_sem]; done)
      (have h5 := hD5; simp only [hdp, Bool.not_false, Bool.true_or] at h5; exact h5 _)
    · -- region 5
      refine AW.regionK 0 (fun ii => if ii = 5 then some (.reads false (.bool (decide (p ∈ E)))) else none) [2, 3, 9, 10, 11, 48] [13, 15] ?_
      simp only [go_sem, reduceIte, reduceCtorEq, Nat.reduceAdd, Nat.reduceMul, Nat.reduceEqDiff, Nat.reduceLT, Nat.reduceLeDiff, Nat.reduceSub, Nat.reducePow, Nat.reduceBEq, Int.reduceToNat, List.reduceReplicate, hgp, pairV, bools_len, hA, hB2, hdp, hgA, hgB]
      repeat with_reducible refine cj ?_ ?_
      all_goals try first | (first | (rw [hdp] at hha; exact hha) | (intro _; exact ⟨by omega, by omega⟩) | (intro _; omega) | (intros; (repeat' apply And.intro) <;> first | omega | trivial)) | (intros; (repeat' apply And.intro) <;> first | assumption | (first | (rw [hdp] at hha; exact hha) | (intro _; exact ⟨by omega, by omega⟩) | (intro _; omega) | (intros; (repeat' apply And.intro) <;> first | omega | trivial))) | omega | exact ent (by kernel_rfl) | (intro hgd; exact absurd hgd (by decide)) | rfl | (simp only [go_sem, reduceIte, reduceCtorEq, Nat.reduceAdd, Nat.reduceMul, Nat.reduceEqDiff, Nat.reduceLT, Nat.reduceLeDiff, Nat.reduceSub, Nat.reducePow, Nat.reduceBEq, Int.reduceToNat, List.reduceReplicate, hgp, pairV, bools_len, hA, hB2, hdp, hgA, hgB]; done) | (intro _hgd; simp_all [go_sem]; done)
      (have h5 := hD5; simp only [hdp, Bool.not_false, Bool.true_or] at h5; exact h5 _)
  · intro hb
    try simp only [hB, decide_eq_true_eq, decide_eq_false_iff_not] at hb
    have hj2 : j = P.length := by omega
    rw [hj2, List.take_length] at hin hd1 hd2
    have hal : (P.all fun p => decide (p ∈ E)) = true := List.all_eq_true.2 fun p hp => by simpa using hin p hp
    refine AW.keep [] [] ?_
    try simp only [go_sem, reduceIte, reduceCtorEq, Nat.reduceAdd, Nat.reduceMul, Nat.reduceEqDiff, Nat.reduceLT, Nat.reduceLeDiff, Nat.reduceSub, Nat.reducePow, Nat.reduceBEq, Int.reduceToNat, List.reduceReplicate]
    refine AW.exit ?_
    rw [← hQl1]
    refine hK3 _ _ _ ?_; clear hK3
    refine AW.seq fun K14 hK14 => ?_
    -- region 9
    refine AW.regionK 0 (fun _ => none) [8] [] ?_
    simp only [go_sem, reduceIte, reduceCtorEq, Nat.reduceAdd, Nat.reduceMul, Nat.reduceEqDiff, Nat.reduceLT, Nat.reduceLeDiff, Nat.reduceSub, Nat.reducePow, Nat.reduceBEq, Int.reduceToNat, List.reduceReplicate]
    repeat with_reducible refine cj ?_ ?_
    all_goals try first | omega
    refine hK14 _ _ _ ?_; clear hK14
    refine AW.ret ?_
    rw [← hQr]
    simp only [go_sem, reduceIte, reduceCtorEq, Nat.reduceAdd, Nat.reduceMul, Nat.reduceEqDiff, Nat.reduceLT, Nat.reduceLeDiff, Nat.reduceSub, Nat.reducePow, Nat.reduceBEq, Int.reduceToNat, List.reduceReplicate]
    exact Wk.of_eq (by rw [isMat, hal]; simp [hd1, hd2])
end Go.Proofs.M

namespace Go.Proofs.M
open Go.AM Go
set_option maxRecDepth 100000
set_option maxHeartbeats 2000000
end Go.Proofs.M

namespace Go.Proofs.M
open Go.AM Go
set_option maxRecDepth 100000
set_option maxHeartbeats 2000000
end Go.Proofs.M

namespace Go.Proofs.M
open Go.AM Go
set_option maxRecDepth 100000
set_option maxHeartbeats 2000000
end Go.Proofs.M

namespace Go.Proofs.M
open Go.AM Go
set_option maxRecDepth 100000
set_option maxHeartbeats 2000000
end Go.Proofs.M

/- What the search for an alternating path does to a matching. -/
namespace Go.AM
def gi (l : List Int) (i : Nat) : Int := l.getD i (-1)
theorem gi_eq {l : List Int} {i : Nat} (h : i < l.length) : l.getD i 0 = gi l i := by
  simp [gi, List.getD_eq_getElem?_getD, h]
theorem gi_set (l : List Int) (i k : Nat) (x : Int) : gi (l.set i x) k = if i = k ∧ i < l.length then x else gi l k := by
  unfold gi
  by_cases h : i = k
  · subst h
    by_cases h2 : i < l.length
    · rw [Go.AM.getD_set_eq h2, if_pos ⟨rfl, h2⟩]
    · rw [List.set_eq_of_length_le (by omega), if_neg (by omega)]
  · rw [Go.AM.getD_set_ne (by omega), if_neg (by omega)]
theorem gi_mem {l : List Int} {i : Nat} (h : i < l.length) : gi l i ∈ l := mem_getD h _
def sg (s : List Bool) (r : Nat) : Prop := s.getD r false = true
theorem sg_set (s : List Bool) (i k : Nat) (h : i < s.length) : sg (s.set i true) k ↔ i = k ∨ sg s k := by
  unfold sg
  by_cases e : i = k
  · subst e; rw [Go.AM.getD_set_eq h]; simp
  · rw [Go.AM.getD_set_ne (by omega)]; simp [e]
abbrev nbl (nb : List (List Int)) (l : Nat) : List Int := nb.getD l []
def Cn (L R : List Int) : Prop := ∀ l r : Nat, gi L l = (r : Int) ↔ gi R r = (l : Int)
def Ed (nb : List (List Int)) (L : List Int) : Prop := ∀ l, 0 ≤ gi L l → gi L l ∈ nbl nb l
structure Suc (nb : List (List Int)) (s : List Bool) (L R : List Int) (l : Nat) (L' R' : List Int) : Prop where
  p1 : ∀ l' r : Nat, l' ≠ l → (gi L' l' = (r : Int) ↔ gi R' r = (l' : Int))
  p2 : ∃ q : Nat, ¬ sg s q ∧ (q : Int) ∈ nbl nb l ∧ gi L' l = q ∧ gi R' q = l ∧ ∀ r : Nat, gi R' r = l → r = q ∨ gi R r = l
  p3 : ∀ r, sg s r → gi R' r = gi R r
  p4 : ∀ l', l' ≠ l → (∀ r : Nat, gi R r = (l' : Int) → sg s r) → gi L' l' = gi L l'
  p5 : ∀ l', l' ≠ l → (0 ≤ gi L l' ↔ 0 ≤ gi L' l')
  p6 : ∀ r, 0 ≤ gi R r → 0 ≤ gi R' r
  p7 : Ed nb L'
structure Fai (nb : List (List Int)) (R : List Int) (row : List Int) (s s' : List Bool) : Prop where
  q1 : ∀ r, sg s r → sg s' r
  q2 : ∀ r, sg s' r → sg s r ∨ (0 ≤ gi R r ∧ ∀ x ∈ nbl nb (gi R r).toNat, sg s' x.toNat)
  q3 : ∀ x ∈ row, sg s' x.toNat
theorem Suc.mono {nb : List (List Int)} {s s2 : List Bool} {L R L' R' : List Int} {l : Nat} (h : Suc nb s2 L R l L' R') (hs : ∀ r, sg s r → sg s2 r) : Suc nb s L R l L' R' :=
  ⟨h.p1, by obtain ⟨q, h1, h2⟩ := h.p2; exact ⟨q, fun h => h1 (hs q h), h2⟩, fun r hr => h.p3 r (hs r hr), fun l' hl hr => h.p4 l' hl fun r e => hs r (hr r e), h.p5, h.p6, h.p7⟩
def FS (n m : Nat) (nb : List (List Int)) (fu : Nat) (f : Int → List Bool → List Int → List Int → Bool × MSt) : Prop :=
  ∀ (l : Nat) s L R b s' L' R', uns s < fu → l < n → MOk n m nb s L R → Cn L R → Ed nb L → (∀ r : Nat, gi R r = (l : Int) → sg s r) → f (l : Int) s L R = (b, s', L', R') →
    (b = true → Suc nb s L R l L' R') ∧ (b = false → L' = L ∧ R' = R ∧ Fai nb R (nbl nb l) s s')
theorem mgo_spec {n m : Nat} {nb : List (List Int)} {fu : Nat} {f : Int → List Bool → List Int → List Int → Bool × MSt} (hf : FS n m nb fu f) (hk : ∀ l s L R, l < (n : Int) → MOk n m nb s L R → MKeep n m nb s (f l s L R)) {l : Nat} (hl : l < n) :
    ∀ (rs : List Int) (s : List Bool) (L R : List Int) (b : Bool) (s' : List Bool) (L' R' : List Int), uns s < fu + 1 → MOk n m nb s L R → Cn L R → Ed nb L → (∀ r : Nat, gi R r = (l : Int) → sg s r) → (∀ r ∈ rs, r ∈ nbl nb l) → mgo f (l : Int) rs s L R = (b, s', L', R') →
    (b = true → Suc nb s L R l L' R') ∧ (b = false → L' = L ∧ R' = R ∧ Fai nb R rs s s')
  | [], s, L, R, b, s', L', R', _, _, _, _, _, _, h => by
    simp only [mgo, Prod.mk.injEq] at h
    obtain ⟨rfl, rfl, rfl, rfl⟩ := h
    exact ⟨fun h => (by cases h), fun _ => ⟨rfl, rfl, ⟨fun r h => h, fun r h => .inl h, fun x hx => by cases hx⟩⟩⟩
  | r :: rs, s, L, R, b, s', L', R', hu, hok, hC, hE, hst, hrs, h => by
    have hrs2 : ∀ r ∈ rs, r ∈ nbl nb l := fun x hx => hrs x (by simp [hx])
    have hrn := hrs r (by simp)
    have hrm : 0 ≤ r ∧ r < (m : Int) := by
      refine hok.hnb.2 (nbl nb l) (mem_getD (by rw [hok.hnb.1]; exact hl) []) r hrn
    obtain ⟨q, rfl⟩ : ∃ q : Nat, r = (q : Int) := ⟨r.toNat, by omega⟩
    have hqm : q < m := by omega
    have hsl := hok.hs
    have hRl := hok.hR.1
    have hLl := hok.hL.1
    unfold mgo at h
    simp only [Int.toNat_natCast] at h
    by_cases hs : s.getD q false = true
    · rw [if_pos hs] at h
      obtain ⟨h1, h2⟩ := mgo_spec hf hk hl rs s L R b s' L' R' hu hok hC hE hst hrs2 h
      refine ⟨h1, fun hb => ?_⟩
      obtain ⟨e1, e2, h3⟩ := h2 hb
      refine ⟨e1, e2, ⟨h3.q1, h3.q2, fun x hx => ?_⟩⟩
      rcases List.mem_cons.1 hx with rfl | hx
      · exact h3.q1 _ hs
      · exact h3.q3 x hx
    · rw [if_neg hs] at h
      have hns : ¬ sg s q := hs
      have hmk := mstep_keep hk hrm hok (by rw [Int.toNat_natCast]; simpa using hs)
      have hss := sg_set s q
      unfold mstep at h hmk
      rw [Int.toNat_natCast, gi_eq (by omega)] at h hmk
      by_cases hR : gi R q < 0
      · rw [if_pos hR] at h
        simp only [Prod.mk.injEq] at h
        obtain ⟨rfl, rfl, rfl, rfl⟩ := h
        refine ⟨fun _ => ?_, fun h => by cases h⟩
        try simp only [Int.toNat_natCast]
        refine ⟨fun l' r hl' => ?_, ⟨q, hns, hrn, ?_, ?_, fun r hr => ?_⟩, fun r hr => ?_, fun l' hl' _ => ?_, fun l' hl' => ?_, fun r hr => ?_, fun l' hl' => ?_⟩
        · rw [gi_set, if_neg (by omega), gi_set]
          by_cases e : q = r
          · subst e
            rw [if_pos (by omega)]
            have := hC l' q
            constructor <;> intro h2
            · have := this.1 h2; omega
            · omega
          · rw [if_neg (by omega)]; exact hC l' r
        · rw [gi_set, if_pos (by omega)]
        · rw [gi_set, if_pos (by omega)]
        · rw [gi_set] at hr
          by_cases e : q = r
          · exact .inl e.symm
          · rw [if_neg (by omega)] at hr; exact .inr hr
        · rw [gi_set, if_neg (show ¬ (q = r ∧ _) from fun e => hns (e.1 ▸ hr))]
        · rw [gi_set, if_neg (by omega)]
        · rw [gi_set, if_neg (by omega)]
        · rw [gi_set]; split <;> omega
        · rw [gi_set] at hl' ⊢
          split at hl'
          · rename_i e; rw [if_pos e, ← e.1]; exact hrn
          · rename_i e; rw [if_neg e]; exact hE l' hl'
      · rw [if_neg hR] at h hmk
        obtain ⟨l2, hl2⟩ : ∃ l2 : Nat, gi R q = (l2 : Int) := ⟨(gi R q).toNat, by omega⟩
        have hl2n : l2 < n := by
          have := hok.hR.2 (gi R q) (gi_mem (by omega)); omega
        rw [hl2] at h hmk
        have hLl2 := (hC l2 q).2 hl2
        have huq : ∀ r : Nat, gi R r = (l2 : Int) → r = q := fun r hr => by
          have := (hC l2 r).2 hr; omega
        have hne : l2 ≠ l := fun e => hns (hst q (by rw [hl2, e]))
        have hu2 := uns_set (s := s) (i := q) (by omega) (by simpa using hs)
        obtain ⟨⟨b2, s2, L2, R2⟩, hx⟩ : ∃ x, f (l2 : Int) (s.set q true) L R = x := ⟨_, rfl⟩
        have hsp := hf l2 (s.set q true) L R b2 s2 L2 R2 (by omega) hl2n (hok.seen q) hC hE (fun r hr => by rw [huq r hr]; exact (hss q (by omega)).2 (.inl rfl)) hx
        rw [hx] at h hmk
        simp only at hmk
        cases b2 with
        | true =>
          simp only [Prod.mk.injEq, Int.toNat_natCast] at h
          obtain ⟨rfl, rfl, rfl, rfl⟩ := h
          refine ⟨fun _ => ?_, fun h => by cases h⟩
          have hS := hsp.1 rfl
          have hR2l := hmk.1.hR.1
          have hL2l := hmk.1.hL.1
          obtain ⟨z, hz1, hz2, hz3, hz4, hz5⟩ := hS.p2
          have hzq : z ≠ q := fun e => hz1 ((hss z (by omega)).2 (.inl e.symm))
          have hRq : gi R2 q = (l2 : Int) := by rw [hS.p3 q ((hss q (by omega)).2 (.inl rfl)), hl2]
          have hLk : gi L2 l = gi L l := hS.p4 l (fun e => hne e.symm) fun r hr => (hss r (by omega)).2 (.inr (hst r hr))
          refine ⟨fun l' r hl' => ?_, ⟨q, hns, hrn, ?_, ?_, fun r hr => ?_⟩, fun r hr => ?_, fun l' hl' hr => ?_, fun l' hl' => ?_, fun r hr => ?_, fun l' hl' => ?_⟩
          · rw [gi_set, if_neg (by omega), gi_set]
            by_cases e2 : l' = l2
            · subst e2
              by_cases e : q = r
              · subst e
                rw [if_pos (by omega)]
                constructor <;> intro h2 <;> omega
              · rw [if_neg (by omega)]
                constructor
                · intro h2
                  have : r = z := by omega
                  subst this; exact hz4
                · intro h2
                  rcases hz5 r h2 with h3 | h3
                  · subst h3; exact hz3
                  · exact absurd (huq r h3).symm e
            · have h1 := hS.p1 l' r e2
              by_cases e : q = r
              · subst e
                rw [if_pos (by omega)]
                constructor <;> intro h2
                · have := h1.1 h2; omega
                · omega
              · rw [if_neg (by omega)]; exact h1
          · rw [gi_set, if_pos (by omega)]
          · rw [gi_set, if_pos (by omega)]
          · rw [gi_set] at hr
            by_cases e : q = r
            · exact .inl e.symm
            · rw [if_neg (by omega)] at hr
              have h1 := (hS.p1 l r (fun e => hne e.symm)).2 hr
              rw [hLk] at h1
              exact .inr ((hC l r).1 h1)
          · rw [gi_set, if_neg (show ¬ (q = r ∧ _) from fun e => hns (e.1 ▸ hr))]
            exact hS.p3 r ((hss r (by omega)).2 (.inr hr))
          · rw [gi_set, if_neg (by omega)]
            by_cases e2 : l' = l2
            · subst e2
              exact absurd (hr q hl2) hns
            · exact hS.p4 l' e2 fun r hr2 => (hss r (by omega)).2 (.inr (hr r hr2))
          · rw [gi_set, if_neg (by omega)]
            by_cases e2 : l' = l2
            · subst e2; omega
            · exact hS.p5 l' e2
          · rw [gi_set]; split
            · omega
            · exact hS.p6 r hr
          · rw [gi_set] at hl' ⊢
            split at hl'
            · rename_i e; rw [if_pos e, ← e.1]; exact hrn
            · rename_i e; rw [if_neg e]; exact hS.p7 l' hl'
        | false =>
          simp only at h
          obtain ⟨rfl, rfl, hF⟩ := hsp.2 rfl
          have hm1 : ∀ r, sg s r → sg s2 r := fun r hr => hF.q1 r ((hss r (by omega)).2 (.inr hr))
          have hsq : sg s2 q := hF.q1 q ((hss q (by omega)).2 (.inl rfl))
          obtain ⟨h1, h2⟩ := mgo_spec hf hk hl rs s2 L2 R2 b s' L' R' (by omega) hmk.1 hC hE (fun r hr => hm1 r (hst r hr)) hrs2 h
          refine ⟨fun hb => (h1 hb).mono hm1, fun hb => ?_⟩
          obtain ⟨e1, e2, h3⟩ := h2 hb
          refine ⟨e1, e2, ⟨fun r hr => h3.q1 r (hm1 r hr), fun r hr => ?_, fun x hx => ?_⟩⟩
          · rcases h3.q2 r hr with h4 | h4
            · rcases hF.q2 r h4 with h5 | ⟨h5, h6⟩
              · rcases (hss r (by omega)).1 h5 with h7 | h7
                · subst h7
                  refine .inr ⟨by omega, fun x hx => h3.q1 _ (hF.q3 x ?_)⟩
                  rw [hl2, Int.toNat_natCast] at hx
                  exact hx
                · exact .inl h7
              · exact .inr ⟨h5, fun x hx => h3.q1 _ (h6 x hx)⟩
            · exact .inr h4
          · rcases List.mem_cons.1 hx with rfl | hx
            · exact h3.q1 _ (by rw [Int.toNat_natCast]; exact hsq)
            · exact h3.q3 x hx
theorem mtry_spec {n m : Nat} {nb : List (List Int)} : ∀ fu, FS n m nb fu (mtry nb fu)
  | 0 => fun l s L R b s' L' R' hu => by omega
  | fu + 1 => fun l s L R b s' L' R' hu hl hok hC hE hst h => by
    unfold mtry at h
    rw [Int.toNat_natCast] at h
    exact mgo_spec (mtry_spec fu) (fun l s L R => mtry_keep fu l s L R) hl _ s L R b s' L' R' hu hok hC hE hst (fun r hr => hr) h

/-- A set of right nodes that no alternating path leaves. -/
def Tcl (nb : List (List Int)) (R : List Int) (T : Nat → Prop) : Prop := ∀ r, T r → 0 ≤ gi R r ∧ ∀ x ∈ nbl nb (gi R r).toNat, T x.toNat
def TS (n m : Nat) (nb : List (List Int)) (f : Int → List Bool → List Int → List Int → Bool × MSt) (T : Nat → Prop) : Prop :=
  ∀ (l : Nat) s L R b s' L' R', l < n → MOk n m nb s L R → Tcl nb R T → f (l : Int) s L R = (b, s', L', R') → ((∀ r ∈ nbl nb l, T r.toNat) → b = false) ∧ ∀ r, T r → gi R' r = gi R r
theorem Tcl.same {nb : List (List Int)} {R R' : List Int} {T : Nat → Prop} (h : Tcl nb R T) (e : ∀ r, T r → gi R' r = gi R r) : Tcl nb R' T := fun r hr => by
  rw [e r hr]; exact h r hr
theorem mgo_T {n m : Nat} {nb : List (List Int)} {f : Int → List Bool → List Int → List Int → Bool × MSt} {T : Nat → Prop} (hf : TS n m nb f T) (hk : ∀ l s L R, l < (n : Int) → MOk n m nb s L R → MKeep n m nb s (f l s L R)) {l : Nat} (hl : l < n) :
    ∀ (rs : List Int) (s : List Bool) (L R : List Int) (b : Bool) (s' : List Bool) (L' R' : List Int), MOk n m nb s L R → Tcl nb R T → (∀ r ∈ rs, r ∈ nbl nb l) → mgo f (l : Int) rs s L R = (b, s', L', R') →
    ((∀ r ∈ rs, T r.toNat) → b = false) ∧ ∀ r, T r → gi R' r = gi R r
  | [], s, L, R, b, s', L', R', _, _, _, h => by
    simp only [mgo, Prod.mk.injEq] at h
    obtain ⟨rfl, rfl, rfl, rfl⟩ := h
    exact ⟨fun _ => rfl, fun _ _ => rfl⟩
  | r :: rs, s, L, R, b, s', L', R', hok, hT, hrs, h => by
    have hrs2 : ∀ r ∈ rs, r ∈ nbl nb l := fun x hx => hrs x (by simp [hx])
    have hrn := hrs r (by simp)
    have hrm : 0 ≤ r ∧ r < (m : Int) := hok.hnb.2 (nbl nb l) (mem_getD (by rw [hok.hnb.1]; exact hl) []) r hrn
    obtain ⟨q, rfl⟩ : ∃ q : Nat, r = (q : Int) := ⟨r.toNat, by omega⟩
    have hRl := hok.hR.1
    unfold mgo at h
    simp only [Int.toNat_natCast] at h
    by_cases hs : s.getD q false = true
    · rw [if_pos hs] at h
      obtain ⟨h1, h2⟩ := mgo_T hf hk hl rs s L R b s' L' R' hok hT hrs2 h
      exact ⟨fun ha => h1 fun x hx => ha x (by simp [hx]), h2⟩
    · rw [if_neg hs] at h
      have hmk := mstep_keep hk hrm hok (by rw [Int.toNat_natCast]; simpa using hs)
      unfold mstep at h hmk
      rw [Int.toNat_natCast, gi_eq (by omega)] at h hmk
      by_cases hR : gi R q < 0
      · rw [if_pos hR] at h
        simp only [Prod.mk.injEq] at h
        obtain ⟨rfl, rfl, rfl, rfl⟩ := h
        have hnT : ¬ T q := fun hq => by have := (hT q hq).1; omega
        refine ⟨fun ha => absurd (ha (q : Int) (by simp)) (by rw [Int.toNat_natCast]; exact hnT), fun r hr => ?_⟩
        rw [gi_set, if_neg (show ¬ (q = r ∧ _) from fun e => hnT (e.1 ▸ hr))]
      · rw [if_neg hR] at h hmk
        obtain ⟨l2, hl2⟩ : ∃ l2 : Nat, gi R q = (l2 : Int) := ⟨(gi R q).toNat, by omega⟩
        have hl2n : l2 < n := by
          have := hok.hR.2 (gi R q) (gi_mem (by omega)); omega
        rw [hl2] at h hmk
        obtain ⟨⟨b2, s2, L2, R2⟩, hx⟩ : ∃ x, f (l2 : Int) (s.set q true) L R = x := ⟨_, rfl⟩
        have hsp := hf l2 (s.set q true) L R b2 s2 L2 R2 hl2n (hok.seen q) hT hx
        rw [hx] at h hmk
        simp only at hmk
        have hTq : T q → b2 = false := fun hq => hsp.1 (by have := (hT q hq).2; rw [hl2, Int.toNat_natCast] at this; exact this)
        cases b2 with
        | true =>
          simp only [Prod.mk.injEq, Int.toNat_natCast] at h
          obtain ⟨rfl, rfl, rfl, rfl⟩ := h
          have hnT : ¬ T q := fun hq => by cases hTq hq
          refine ⟨fun ha => absurd (ha (q : Int) (by simp)) (by rw [Int.toNat_natCast]; exact hnT), fun r hr => ?_⟩
          rw [gi_set, if_neg (show ¬ (q = r ∧ _) from fun e => hnT (e.1 ▸ hr))]
          exact hsp.2 r hr
        | false =>
          simp only at h
          obtain ⟨h1, h2⟩ := mgo_T hf hk hl rs s2 L2 R2 b s' L' R' hmk.1 (hT.same hsp.2) hrs2 h
          exact ⟨fun ha => h1 fun x hx => ha x (by simp [hx]), fun r hr => by rw [h2 r hr, hsp.2 r hr]⟩
theorem mtry_T {n m : Nat} {nb : List (List Int)} (T : Nat → Prop) : ∀ fu, TS n m nb (mtry nb fu) T
  | 0 => fun l s L R b s' L' R' _ _ _ h => by
    simp only [mtry, Prod.mk.injEq] at h
    obtain ⟨rfl, rfl, rfl, rfl⟩ := h
    exact ⟨fun _ => rfl, fun _ _ => rfl⟩
  | fu + 1 => fun l s L R b s' L' R' hl hok hT h => by
    unfold mtry at h
    rw [Int.toNat_natCast] at h
    exact mgo_T (mtry_T T fu) (fun l s L R => mtry_keep fu l s L R) hl _ s L R b s' L' R' hok hT (fun r hr => hr) h

/-- A matching in a graph. -/
structure Mch (n m : Nat) (nb : List (List Int)) (L R : List Int) : Prop where
  hL : L.length = n
  hR : R.length = m
  hRn : ∀ r, gi R r < (n : Int)
  hLm : ∀ l, gi L l < (m : Int)
  hC : Cn L R
  hE : Ed nb L
theorem Mch.ok {n m : Nat} {nb : List (List Int)} {L R : List Int} (h : Mch n m nb L R) (h1 : nb.length = n) (h2 : ∀ row ∈ nb, ∀ r ∈ row, 0 ≤ r ∧ r < (m : Int)) : MOk n m nb (List.replicate m false) L R :=
  ⟨⟨h1, h2⟩, by simp, ⟨h.hL, fun x hx => by obtain ⟨i, hi, rfl⟩ := List.getElem_of_mem hx; have := h.hLm i; rw [gi, List.getD_eq_getElem?_getD, List.getElem?_eq_getElem hi] at this; exact this⟩,
   ⟨h.hR, fun x hx => by obtain ⟨i, hi, rfl⟩ := List.getElem_of_mem hx; have := h.hRn i; rw [gi, List.getD_eq_getElem?_getD, List.getElem?_eq_getElem hi] at this; exact this⟩⟩
theorem gi_lt_of {l : List Int} {c : Int} (hc : 0 ≤ c) (h : ∀ x ∈ l, x < c) (i : Nat) : gi l i < c := by
  by_cases hi : i < l.length
  · exact h _ (gi_mem hi)
  · have : gi l i = -1 := getD_out (by omega) _
    omega
theorem sg_none (m r : Nat) : ¬ sg (List.replicate m false) r := by
  unfold sg
  rw [List.getD_eq_getElem?_getD, List.getElem?_replicate]
  split <;> simp
/-- A search from a free left node. -/
theorem mtry_top {n m : Nat} {nb : List (List Int)} (h1 : nb.length = n) (h2 : ∀ row ∈ nb, ∀ r ∈ row, 0 ≤ r ∧ r < (m : Int)) {L R : List Int} (h : Mch n m nb L R) {l : Nat} (hl : l < n) (hfr : gi L l < 0) {b : Bool} {s' : List Bool} {L' R' : List Int}
    (hx : mtry nb (m + 1) (l : Int) (List.replicate m false) L R = (b, s', L', R')) :
    (b = true → Mch n m nb L' R' ∧ (∀ l', 0 ≤ gi L' l' ↔ (0 ≤ gi L l' ∨ l' = l)) ∧ (∀ r, 0 ≤ gi R r → 0 ≤ gi R' r)) ∧
    (b = false → L' = L ∧ R' = R ∧ ∃ T : Nat → Prop, Tcl nb R T ∧ ∀ r ∈ nbl nb l, T r.toNat) ∧
    ∀ T : Nat → Prop, Tcl nb R T → ((∀ r ∈ nbl nb l, T r.toNat) → b = false) ∧ Tcl nb R' T := by
  have hok := h.ok h1 h2
  have hst : ∀ r : Nat, gi R r = (l : Int) → sg (List.replicate m false) r := fun r hr => by
    have := (h.hC l r).2 hr; omega
  have hsp := mtry_spec (m + 1) l _ L R b s' L' R' (by rw [uns_replicate]; omega) hl hok h.hC h.hE hst hx
  have hkp := (mtry_keep (m + 1) (l : Int) _ L R (by omega) hok).1
  rw [hx] at hkp
  simp only at hkp
  refine ⟨fun hb => ?_, fun hb => ?_, fun T hT => ?_⟩
  · have hS := hsp.1 hb
    obtain ⟨q, _, hq2, hq3, hq4, hq5⟩ := hS.p2
    refine ⟨⟨hkp.hL.1, hkp.hR.1, gi_lt_of (by omega) hkp.hR.2, gi_lt_of (by omega) hkp.hL.2, fun l' r => ?_, hS.p7⟩, fun l' => ?_, hS.p6⟩
    · by_cases e : l' = l
      · subst e
        constructor
        · intro h3
          have : r = q := by omega
          subst this; exact hq4
        · intro h3
          rcases hq5 r h3 with h4 | h4
          · subst h4; exact hq3
          · have := (h.hC l' r).2 h4; omega
      · exact hS.p1 l' r e
    · by_cases e : l' = l
      · subst e; omega
      · have := hS.p5 l' e
        constructor
        · intro h3; exact .inl (this.2 h3)
        · rintro (h3 | h3)
          · exact this.1 h3
          · exact absurd h3 e
  · obtain ⟨e1, e2, hF⟩ := hsp.2 hb
    refine ⟨e1, e2, fun r => sg s' r, fun r hr => ?_, hF.q3⟩
    rcases hF.q2 r hr with h3 | h3
    · exact absurd h3 (sg_none m r)
    · exact h3
  · have hTT := mtry_T T (m + 1) l _ L R b s' L' R' hl hok hT hx
    exact ⟨hTT.1, hT.same hTT.2⟩
/-- No alternating path leads from a free left node to a free right one. -/
def NoAug (nb : List (List Int)) (n : Nat) (L R : List Int) : Prop := ∃ T : Nat → Prop, Tcl nb R T ∧ ∀ l, l < n → gi L l < 0 → ∀ r ∈ nbl nb l, T r.toNat
theorem gi_rep (n i : Nat) : gi (List.replicate n (-1)) i = -1 := by
  unfold gi
  rw [List.getD_eq_getElem?_getD, List.getElem?_replicate]
  split <;> rfl
theorem mch_start (n m : Nat) (nb : List (List Int)) : Mch n m nb (List.replicate n (-1)) (List.replicate m (-1)) :=
  ⟨by simp, by simp, fun r => by rw [gi_rep]; omega, fun r => by rw [gi_rep]; omega, fun l r => by rw [gi_rep, gi_rep]; omega, fun l h => by rw [gi_rep] at h; omega⟩
theorem maxLR_spec {n m : Nat} {nb : List (List Int)} (h1 : nb.length = n) (h2 : ∀ row ∈ nb, ∀ r ∈ row, 0 ≤ r ∧ r < (m : Int)) : ∀ j, j ≤ n → Mch n m nb (maxLR nb n m j).1 (maxLR nb n m j).2 ∧
    (∀ l, j ≤ l → gi (maxLR nb n m j).1 l < 0) ∧ ∃ T : Nat → Prop, Tcl nb (maxLR nb n m j).2 T ∧ ∀ l, l < j → gi (maxLR nb n m j).1 l < 0 → ∀ r ∈ nbl nb l, T r.toNat
  | 0, _ => ⟨mch_start n m nb, fun l _ => by show gi (List.replicate n (-1)) l < 0; rw [gi_rep]; omega, fun _ => False, fun _ h => h.elim, fun l h => by omega⟩
  | j + 1, hj => by
    obtain ⟨hM, hfr, T, hT, hTn⟩ := maxLR_spec h1 h2 j (by omega)
    obtain ⟨⟨b, s', L', R'⟩, hx⟩ : ∃ x, mtry nb (m + 1) (j : Int) (List.replicate m false) (maxLR nb n m j).1 (maxLR nb n m j).2 = x := ⟨_, rfl⟩
    have hsu : (maxLR nb n m (j + 1)) = (L', R') := by show (mtry nb (m + 1) (j : Int) (List.replicate m false) (maxLR nb n m j).1 (maxLR nb n m j).2).2.2 = _; rw [hx]
    obtain ⟨a1, a2, a3⟩ := mtry_top h1 h2 hM (by omega) (hfr j (Nat.le_refl _)) hx
    rw [hsu]
    cases b with
    | true =>
      obtain ⟨b1, b2, b3⟩ := a1 rfl
      refine ⟨b1, fun l hl => ?_, T, (a3 T hT).2, fun l hl hf => ?_⟩
      · have := b2 l; have := hfr l (by omega); simp only; omega
      · have := b2 l
        simp only at hf
        exact hTn l (by omega) (by omega)
    | false =>
      obtain ⟨e1, e2, T2, c1, c2⟩ := a2 rfl
      subst e1; subst e2
      refine ⟨hM, fun l hl => hfr l (by omega), fun r => T r ∨ T2 r, fun r hr => ?_, fun l hl hf r hr => ?_⟩
      · rcases hr with hr | hr
        · exact ⟨(hT r hr).1, fun x hx => .inl ((hT r hr).2 x hx)⟩
        · exact ⟨(c1 r hr).1, fun x hx => .inr ((c1 r hr).2 x hx)⟩
      · by_cases e : l = j
        · subst e; exact .inr (c2 r hr)
        · exact .inl (hTn l (by omega) hf r hr)
theorem maxLR_max {n m : Nat} {nb : List (List Int)} (h1 : nb.length = n) (h2 : ∀ row ∈ nb, ∀ r ∈ row, 0 ≤ r ∧ r < (m : Int)) : Mch n m nb (maxLR nb n m n).1 (maxLR nb n m n).2 ∧ NoAug nb n (maxLR nb n m n).1 (maxLR nb n m n).2 :=
  let ⟨h, _, T, hT, hn⟩ := maxLR_spec h1 h2 n (Nat.le_refl n)
  ⟨h, T, hT, hn⟩
end Go.AM

/- The nodes that alternating paths reach. -/
namespace Go.AM
structure RSt where
  s : List Bool
  l : List Int
  q : List Int
def rstep (R : List Int) (r : Int) (t : RSt) : RSt :=
  if t.s.getD r.toNat false = true then t
  else ⟨t.s.set r.toNat true, if 0 ≤ R.getD r.toNat 0 then t.l ++ [R.getD r.toNat 0] else t.l, t.q ++ [r]⟩
def rrow (R : List Int) : List Int → RSt → RSt
  | [], t => t
  | r :: rs, t => rrow R rs (rstep R r t)
def rrun (nb : List (List Int)) (R : List Int) : Nat → Nat → RSt → RSt
  | 0, _, t => t
  | f + 1, i, t => if i < t.l.length then rrun nb R f (i + 1) (rrow R (nb.getD (t.l.getD i 0).toNat []) t) else t
def frL (L : List Int) (j : Nat) : List Int := ((List.range j).filter fun i => decide (L.getD i 0 < 0)).map fun (i : Nat) => (i : Int)
theorem frL_succ (L : List Int) (j : Nat) : frL L (j + 1) = if L.getD j 0 < 0 then frL L j ++ [(j : Int)] else frL L j := by
  unfold frL
  rw [List.range_succ, List.filter_append, List.map_append]
  by_cases h : L.getD j 0 < 0
  · rw [if_pos h]; simp only [List.filter_cons, h, decide_true, if_true, List.filter_nil, List.map_cons, List.map_nil]
  · rw [if_neg h]; simp only [List.filter_cons, h, decide_false, Bool.false_eq_true, if_false, List.filter_nil, List.map_nil, List.append_nil]
theorem frL_le (L : List Int) (j : Nat) : (frL L j).length ≤ j := by
  unfold frL
  rw [List.length_map]
  have := List.length_filter_le (fun i => decide (L.getD i 0 < 0)) (List.range j)
  simpa using this
theorem frL_mem {L : List Int} {n : Nat} (hn : n ≤ L.length) (x : Int) : x ∈ frL L n ↔ ∃ i : Nat, x = i ∧ i < n ∧ gi L i < 0 := by
  simp only [frL, List.mem_map, List.mem_filter, List.mem_range, decide_eq_true_eq]
  constructor
  · rintro ⟨i, ⟨h1, h2⟩, rfl⟩; exact ⟨i, rfl, h1, by rw [← gi_eq (by omega)]; exact h2⟩
  · rintro ⟨i, rfl, h1, h2⟩; exact ⟨i, ⟨h1, by rw [gi_eq (by omega)]; exact h2⟩, rfl⟩
/-- The whole search of the reached nodes. -/
def reachP (nb : List (List Int)) (L R : List Int) (n m : Nat) : RSt := rrun nb R (n + m + 1) 0 ⟨List.replicate m false, frL L n, []⟩

inductive RL (nb : List (List Int)) (n : Nat) (L R : List Int) : Nat → Prop
  | free {l : Nat} : l < n → gi L l < 0 → RL nb n L R l
  | step {l : Nat} {r : Int} {l2 : Nat} : RL nb n L R l → r ∈ nbl nb l → gi R r.toNat = (l2 : Int) → RL nb n L R l2
def RR (nb : List (List Int)) (n : Nat) (L R : List Int) (r : Nat) : Prop := ∃ l, RL nb n L R l ∧ (r : Int) ∈ nbl nb l

/-- What the search keeps. -/
structure RIv (n m : Nat) (nb : List (List Int)) (L R : List Int) (t : RSt) : Prop where
  hs : t.s.length = m
  hl : ∀ x ∈ t.l, ∃ i : Nat, x = i ∧ i < n ∧ RL nb n L R i
  hq : ∀ x ∈ t.q, ∃ r : Nat, x = r ∧ r < m ∧ RR nb n L R r ∧ sg t.s r
  hsq : ∀ r, sg t.s r → (r : Int) ∈ t.q
  hb : ∀ r, sg t.s r → 0 ≤ gi R r → gi R r ∈ t.l
  hfr : ∀ i : Nat, i < n → gi L i < 0 → (i : Int) ∈ t.l
  hlen : t.l.length + uns t.s ≤ n + m
  hlq : t.q.length + uns t.s ≤ m
structure RLe (t u : RSt) : Prop where
  hs : ∀ r, sg t.s r → sg u.s r
  hl : ∃ z, u.l = t.l ++ z
  hu : u.l.length + uns u.s ≤ t.l.length + uns t.s
theorem RLe.refl (t : RSt) : RLe t t := ⟨fun _ h => h, ⟨[], by simp⟩, Nat.le_refl _⟩
theorem RLe.trans {t u v : RSt} (h : RLe t u) (g : RLe u v) : RLe t v :=
  ⟨fun r hr => g.hs r (h.hs r hr), by obtain ⟨a, ha⟩ := h.hl; obtain ⟨b, hb⟩ := g.hl; exact ⟨a ++ b, by rw [hb, ha, List.append_assoc]⟩, Nat.le_trans g.hu h.hu⟩
theorem rstep_iv {n m : Nat} {nb : List (List Int)} {L R : List Int} (hR : R.length = m) (hRn : ∀ r, gi R r < (n : Int)) {t : RSt} (h : RIv n m nb L R t) {l : Nat} (hl : RL nb n L R l) {r : Int} (hr : r ∈ nbl nb l) (hrm : 0 ≤ r ∧ r < (m : Int)) :
    RIv n m nb L R (rstep R r t) ∧ RLe t (rstep R r t) ∧ sg (rstep R r t).s r.toNat := by
  unfold rstep
  obtain ⟨q, rfl⟩ : ∃ q : Nat, r = (q : Int) := ⟨r.toNat, by omega⟩
  rw [Int.toNat_natCast]
  by_cases hs : t.s.getD q false = true
  · rw [if_pos hs]; exact ⟨h, .refl t, hs⟩
  · rw [if_neg hs]
    have hsl := h.hs
    have hss := fun k => sg_set t.s q k (by omega)
    have hu := uns_set (s := t.s) (i := q) (by omega) (by simpa using hs)
    have hRR : RR nb n L R q := ⟨l, hl, hr⟩
    have e0 : R.getD q 0 = gi R q := gi_eq (by omega)
    rw [e0]
    have hlen := h.hlen
    have hlq := h.hlq
    have hsm : ∀ x, x ∈ t.l → x ∈ (if 0 ≤ gi R q then t.l ++ [gi R q] else t.l) := fun x hx => by split <;> simp [hx]
    refine ⟨⟨by simp [hsl], fun x hx => ?_, fun x hx => ?_, fun k hk => ?_, fun k hk hk2 => ?_, fun i hi hi2 => hsm _ (h.hfr i hi hi2), ?_, ?_⟩, ⟨fun k hk => (hss k).2 (.inr hk), ?_, ?_⟩, (hss q).2 (.inl rfl)⟩
    · simp only at hx
      split at hx
      · rename_i h0
        rcases List.mem_append.1 hx with h1 | h1
        · exact h.hl x h1
        · simp only [List.mem_singleton] at h1
          subst h1
          refine ⟨(gi R q).toNat, by omega, by have := hRn q; omega, RL.step hl hr ?_⟩
          rw [Int.toNat_natCast]; omega
      · exact h.hl x hx
    · rcases List.mem_append.1 hx with h1 | h1
      · obtain ⟨r, e, h2, h3, h4⟩ := h.hq x h1
        exact ⟨r, e, h2, h3, (hss r).2 (.inr h4)⟩
      · simp only [List.mem_singleton] at h1
        subst h1
        exact ⟨q, rfl, by omega, hRR, (hss q).2 (.inl rfl)⟩
    · rcases (hss k).1 hk with h1 | h1
      · subst h1; simp
      · exact List.mem_append.2 (.inl (h.hsq k h1))
    · rcases (hss k).1 hk with h1 | h1
      · subst h1; simp only; rw [if_pos hk2]; simp
      · exact hsm _ (h.hb k h1 hk2)
    · simp only; split <;> (try simp only [List.length_append, List.length_cons, List.length_nil]) <;> omega
    · simp only [List.length_append, List.length_cons, List.length_nil]; omega
    · simp only; split
      · exact ⟨[gi R q], rfl⟩
      · exact ⟨[], by simp⟩
    · simp only; split <;> simp <;> omega
theorem rrow_iv {n m : Nat} {nb : List (List Int)} {L R : List Int} (hR : R.length = m) (hRn : ∀ r, gi R r < (n : Int)) {l : Nat} (hl : RL nb n L R l) :
    ∀ (rs : List Int) (t : RSt), RIv n m nb L R t → (∀ r ∈ rs, r ∈ nbl nb l ∧ 0 ≤ r ∧ r < (m : Int)) → RIv n m nb L R (rrow R rs t) ∧ RLe t (rrow R rs t) ∧ ∀ r ∈ rs, sg (rrow R rs t).s r.toNat
  | [], t, h, _ => ⟨h, .refl t, fun r hr => by cases hr⟩
  | r :: rs, t, h, hrs => by
    obtain ⟨h1, h2⟩ := hrs r (by simp)
    obtain ⟨a1, a2, a3⟩ := rstep_iv hR hRn h hl h1 h2
    obtain ⟨b1, b2, b3⟩ := rrow_iv hR hRn hl rs (rstep R r t) a1 (fun x hx => hrs x (by simp [hx]))
    refine ⟨b1, a2.trans b2, fun x hx => ?_⟩
    rcases List.mem_cons.1 hx with rfl | hx
    · exact b2.hs _ a3
    · exact b3 x hx
def RCl (nb : List (List Int)) (t : RSt) (i : Nat) : Prop := ∀ k, k < i → k < t.l.length → ∀ r ∈ nbl nb (t.l.getD k 0).toNat, sg t.s r.toNat
theorem rrun_iv {n m : Nat} {nb : List (List Int)} {L R : List Int} (hn1 : nb.length = n) (hn2 : ∀ row ∈ nb, ∀ r ∈ row, 0 ≤ r ∧ r < (m : Int)) (hR : R.length = m) (hRn : ∀ r, gi R r < (n : Int)) :
    ∀ (f i : Nat) (t : RSt), t.l.length + uns t.s < f + i → RIv n m nb L R t → RCl nb t i → RIv n m nb L R (rrun nb R f i t) ∧ RCl nb (rrun nb R f i t) (rrun nb R f i t).l.length
  | 0, i, t, hf, h, hc => ⟨h, fun k hk hk2 => hc k (by show k < i; unfold rrun at hk; omega) hk2⟩
  | f + 1, i, t, hf, h, hc => by
    unfold rrun
    by_cases hi : i < t.l.length
    · rw [if_pos hi]
      obtain ⟨l, e, hln, hl⟩ := h.hl (t.l.getD i 0) (mem_getD hi 0)
      obtain ⟨a1, a2, a3⟩ := rrow_iv hR hRn hl (nb.getD (t.l.getD i 0).toNat []) t h (fun r hr => by
        rw [e, Int.toNat_natCast] at hr
        exact ⟨hr, hn2 _ (mem_getD (by omega) []) r hr⟩)
      obtain ⟨z, hz⟩ := a2.hl
      have hu := a2.hu
      refine rrun_iv hn1 hn2 hR hRn f (i + 1) _ (by omega) a1 fun k hk hk2 r hr => ?_
      rw [hz] at hr
      have hkl : k < t.l.length := by omega
      rw [List.getD_eq_getElem?_getD, List.getElem?_append_left hkl, ← List.getD_eq_getElem?_getD] at hr
      by_cases e2 : k = i
      · subst e2; exact a3 r hr
      · exact a2.hs _ (hc k (by omega) hkl r hr)
    · rw [if_neg hi]; exact ⟨h, fun k hk hk2 => hc k (by omega) hk2⟩
theorem reach_iv0 {n m : Nat} {nb : List (List Int)} {L R : List Int} (hL : L.length = n) : RIv n m nb L R ⟨List.replicate m false, frL L n, []⟩ :=
  ⟨by simp, fun x hx => by obtain ⟨i, e, h1, h2⟩ := (frL_mem (by omega) x).1 hx; exact ⟨i, e, h1, .free h1 h2⟩, fun x hx => (by cases hx), fun r hr => absurd hr (sg_none m r), fun r hr => absurd hr (sg_none m r),
   fun i hi h => (frL_mem (by omega) _).2 ⟨i, rfl, hi, h⟩, by have := frL_le L n; rw [uns_replicate]; simp only; omega, by rw [uns_replicate]; simp⟩
theorem reachP_spec {n m : Nat} {nb : List (List Int)} (hn1 : nb.length = n) (hn2 : ∀ row ∈ nb, ∀ r ∈ row, 0 ≤ r ∧ r < (m : Int)) {L R : List Int} (h : Mch n m nb L R) :
    RIv n m nb L R (reachP nb L R n m) ∧ (∀ i : Nat, (i : Int) ∈ (reachP nb L R n m).l ↔ RL nb n L R i) ∧ ∀ r : Nat, (r : Int) ∈ (reachP nb L R n m).q ↔ RR nb n L R r := by
  obtain ⟨h1, h2⟩ := rrun_iv hn1 hn2 h.hR h.hRn (n + m + 1) 0 ⟨List.replicate m false, frL L n, []⟩ (by have := frL_le L n; rw [uns_replicate]; simp only; omega) (reach_iv0 h.hL) (fun k hk => by omega)
  have hre : rrun nb R (n + m + 1) 0 ⟨List.replicate m false, frL L n, []⟩ = reachP nb L R n m := rfl
  rw [hre] at h1 h2
  have hl : ∀ i : Nat, RL nb n L R i → (i : Int) ∈ (reachP nb L R n m).l := by
    intro i hi
    induction hi with
    | free a b => exact h1.hfr _ a b
    | step a b c ih =>
      obtain ⟨k, hk, e⟩ := List.getElem_of_mem ih
      have h3 := h2 k hk hk
      rw [List.getD_eq_getElem?_getD, List.getElem?_eq_getElem hk, Option.getD_some] at h3
      rw [e, Int.toNat_natCast] at h3
      have h4 := h1.hb _ (h3 _ b) (by omega)
      rw [c] at h4; exact h4
  have hsr : ∀ r : Nat, RR nb n L R r → sg (reachP nb L R n m).s r := by
    rintro r ⟨l, a, b⟩
    have hm := hl l a
    obtain ⟨k, hk, e⟩ := List.getElem_of_mem hm
    have h3 := h2 k hk hk
    rw [List.getD_eq_getElem?_getD, List.getElem?_eq_getElem hk, Option.getD_some] at h3
    rw [e, Int.toNat_natCast] at h3
    exact h3 _ b
  refine ⟨h1, fun i => ⟨fun hi => ?_, hl i⟩, fun r => ⟨fun hr => ?_, fun hr => h1.hsq r (hsr r hr)⟩⟩
  · obtain ⟨i2, e, _, h3⟩ := h1.hl _ hi
    have : i = i2 := by omega
    subst this; exact h3
  · obtain ⟨r2, e, _, h3, _⟩ := h1.hq _ hr
    have : r = r2 := by omega
    subst this; exact h3

/-- The reference's rounds over the edges. -/
abbrev FSt := List Bool × List Bool
def eone (R : List Int) (e : Int × Int) (t : FSt × Bool) : FSt × Bool :=
  if t.1.1.getD e.1.toNat false = false ∨ t.1.2.getD e.2.toNat false = true then t
  else ((if 0 ≤ R.getD e.2.toNat 0 then t.1.1.set (R.getD e.2.toNat 0).toNat true else t.1.1, t.1.2.set e.2.toNat true), true)
def eall (R : List Int) : List (Int × Int) → FSt × Bool → FSt × Bool
  | [], t => t
  | e :: es, t => eall R es (eone R e t)
def erun (R : List Int) (E : List (Int × Int)) : Nat → FSt → FSt
  | 0, t => t
  | f + 1, t => let u := eall R E (t, false); if u.2 = true then erun R E f u.1 else u.1
def freeF (R : List Int) (n : Nat) : Nat → List Bool
  | 0 => List.replicate n true
  | j + 1 => if 0 ≤ R.getD j 0 then (freeF R n j).set (R.getD j 0).toNat false else freeF R n j
theorem freeF_len (R : List Int) (n : Nat) : ∀ j, (freeF R n j).length = n
  | 0 => by simp [freeF]
  | j + 1 => by unfold freeF; split <;> simp [freeF_len R n j]
theorem freeF_get {R : List Int} {n m : Nat} (hR : R.length = m) (hRn : ∀ r, gi R r < (n : Int)) : ∀ j, j ≤ m → ∀ i, i < n → ((freeF R n j).getD i false = true ↔ ∀ r, r < j → gi R r ≠ (i : Int))
  | 0, _, i, hi => by simp [freeF, List.getD_eq_getElem?_getD, hi]
  | j + 1, hj, i, hi => by
    have ih := freeF_get hR hRn j (by omega) i hi
    have hl := freeF_len R n j
    have e0 : R.getD j 0 = gi R j := gi_eq (by omega)
    unfold freeF
    rw [e0]
    have hlt := hRn j
    have hsp : (∀ r, r < j + 1 → gi R r ≠ (i : Int)) ↔ (∀ r, r < j → gi R r ≠ (i : Int)) ∧ gi R j ≠ (i : Int) :=
      ⟨fun h => ⟨fun r hr => h r (by omega), h j (by omega)⟩, fun h r hr => by
        by_cases e : r = j
        · subst e; exact h.2
        · exact h.1 r (by omega)⟩
    rw [hsp, ← ih]
    split
    · by_cases e : (gi R j).toNat = i
      · subst e
        rw [Go.AM.getD_set_eq (by omega)]
        constructor
        · intro h; cases h
        · intro h; omega
      · rw [Go.AM.getD_set_ne (by omega)]
        constructor
        · intro h; exact ⟨h, by omega⟩
        · intro h; exact h.1
    · constructor
      · intro h; exact ⟨h, by omega⟩
      · intro h; exact h.1
/-- What the reference's rounds keep. -/
structure FIv (n m : Nat) (nb : List (List Int)) (L R : List Int) (t : FSt) : Prop where
  h1 : t.1.length = n
  h2 : t.2.length = m
  hl : ∀ i, sg t.1 i → RL nb n L R i
  hr : ∀ r, sg t.2 r → RR nb n L R r
  hb : ∀ r, sg t.2 r → 0 ≤ gi R r → sg t.1 (gi R r).toNat
  hfr : ∀ i, i < n → gi L i < 0 → sg t.1 i
theorem eone_iv {n m : Nat} {nb : List (List Int)} {L R : List Int} (hR : R.length = m) (hRn : ∀ r, gi R r < (n : Int)) {t : FSt × Bool} (h : FIv n m nb L R t.1) {e : Int × Int} (he : edgeIn n m e = true) (hnb : e.2 ∈ nbl nb e.1.toNat) :
    FIv n m nb L R (eone R e t).1 ∧ (∀ r, sg t.1.1 r → sg (eone R e t).1.1 r) ∧ (∀ r, sg t.1.2 r → sg (eone R e t).1.2 r) ∧ (eone R e t = t ∧ (sg t.1.1 e.1.toNat → sg t.1.2 e.2.toNat) ∨ (eone R e t).2 = true ∧ uns (eone R e t).1.2 + 1 = uns t.1.2) := by
  obtain ⟨q1, q2, q3, q4⟩ := edgeIn_iff.1 he
  unfold eone
  by_cases hc : t.1.1.getD e.1.toNat false = false ∨ t.1.2.getD e.2.toNat false = true
  · rw [if_pos hc]
    refine ⟨h, fun _ h => h, fun _ h => h, .inl ⟨rfl, fun h3 => ?_⟩⟩
    rcases hc with h4 | h4
    · unfold sg at h3; rw [h4] at h3; cases h3
    · exact h4
  · rw [if_neg hc]
    have hc1 : sg t.1.1 e.1.toNat := by unfold sg; cases h4 : t.1.1.getD e.1.toNat false <;> simp_all
    have hc2 : ¬ sg t.1.2 e.2.toNat := fun h4 => hc (.inr h4)
    have hl1 := h.h1
    have hl2 := h.h2
    have e0 : R.getD e.2.toNat 0 = gi R e.2.toNat := gi_eq (by omega)
    rw [e0]
    have hlt := hRn e.2.toNat
    have hu := uns_set (s := t.1.2) (i := e.2.toNat) (by omega) (by unfold sg at hc2; simpa using hc2)
    have hs2 := fun k => sg_set t.1.2 e.2.toNat k (by omega)
    have hRR : RR nb n L R e.2.toNat := ⟨_, h.hl _ hc1, by rw [Int.toNat_of_nonneg q3]; exact hnb⟩
    have hs1 : ∀ k, sg (if 0 ≤ gi R e.2.toNat then t.1.1.set (gi R e.2.toNat).toNat true else t.1.1) k ↔ (0 ≤ gi R e.2.toNat ∧ (gi R e.2.toNat).toNat = k) ∨ sg t.1.1 k := fun k => by
      split
      · rename_i h0
        rw [sg_set _ _ _ (by omega)]
        simp [h0]
      · rename_i h0
        simp [h0]
    refine ⟨⟨by simp only; split <;> simp [hl1], by simp [hl2], fun i hi => ?_, fun r hr => ?_, fun r hr h0 => ?_, fun i hi h0 => (hs1 i).2 (.inr (h.hfr i hi h0))⟩, fun k hk => (hs1 k).2 (.inr hk), fun k hk => (hs2 k).2 (.inr hk), .inr ⟨rfl, hu⟩⟩
    · rcases (hs1 i).1 hi with ⟨h3, rfl⟩ | h3
      · exact RL.step (h.hl _ hc1) hnb (by omega)
      · exact h.hl i h3
    · rcases (hs2 r).1 hr with rfl | h3
      · exact hRR
      · exact h.hr r h3
    · rcases (hs2 r).1 hr with rfl | h3
      · exact (hs1 _).2 (.inl ⟨h0, rfl⟩)
      · exact (hs1 _).2 (.inr (h.hb r h3 h0))
theorem eall_iv {n m : Nat} {nb : List (List Int)} {L R : List Int} (hR : R.length = m) (hRn : ∀ r, gi R r < (n : Int)) : ∀ (E : List (Int × Int)) (t : FSt × Bool), (∀ e ∈ E, edgeIn n m e = true ∧ e.2 ∈ nbl nb e.1.toNat) → FIv n m nb L R t.1 →
    FIv n m nb L R (eall R E t).1 ∧ (t.2 = true → (eall R E t).2 = true) ∧ (uns (eall R E t).1.2 ≤ uns t.1.2) ∧ (eall R E t = t ∧ (∀ e ∈ E, sg t.1.1 e.1.toNat → sg t.1.2 e.2.toNat) ∨ (eall R E t).2 = true ∧ uns (eall R E t).1.2 < uns t.1.2)
  | [], t, _, h => ⟨h, fun h => h, Nat.le_refl _, .inl ⟨rfl, fun e he => by cases he⟩⟩
  | e :: E, t, hE, h => by
    obtain ⟨p1, p2⟩ := hE e (by simp)
    obtain ⟨a1, a2, a3, a4⟩ := eone_iv hR hRn h p1 p2
    obtain ⟨b1, b2, b3, b4⟩ := eall_iv hR hRn E (eone R e t) (fun x hx => hE x (by simp [hx])) a1
    unfold eall
    rcases a4 with ⟨a4, a5⟩ | ⟨a4, a5⟩
    · rw [a4] at b1 b2 b3 b4 ⊢
      refine ⟨b1, b2, b3, ?_⟩
      rcases b4 with ⟨b4, b5⟩ | b4
      · refine .inl ⟨b4, fun x hx => ?_⟩
        rcases List.mem_cons.1 hx with rfl | hx
        · exact a5
        · exact b5 x hx
      · exact .inr b4
    · exact ⟨b1, fun _ => b2 a4, by omega, .inr ⟨b2 a4, by omega⟩⟩
theorem erun_iv {n m : Nat} {nb : List (List Int)} {L R : List Int} (hR : R.length = m) (hRn : ∀ r, gi R r < (n : Int)) {E : List (Int × Int)} (hE : ∀ e ∈ E, edgeIn n m e = true ∧ e.2 ∈ nbl nb e.1.toNat) : ∀ (f : Nat) (t : FSt), uns t.2 < f → FIv n m nb L R t →
    FIv n m nb L R (erun R E f t) ∧ ∀ e ∈ E, sg (erun R E f t).1 e.1.toNat → sg (erun R E f t).2 e.2.toNat
  | 0, t, hf, _ => by omega
  | f + 1, t, hf, h => by
    obtain ⟨a1, a2, a3, a4⟩ := eall_iv hR hRn E (t, false) hE h
    unfold erun
    simp only
    rcases a4 with ⟨a4, a5⟩ | ⟨a4, a5⟩
    · rw [a4]
      simp only [Bool.false_eq_true, if_false]
      exact ⟨h, a5⟩
    · rw [if_pos a4]
      exact erun_iv hR hRn hE f _ (by simp only at a5; omega) a1
def reachF (R : List Int) (E : List (Int × Int)) (n m : Nat) : FSt := erun R E (m + 1) (freeF R n m, List.replicate m false)
theorem reachF_spec {n m : Nat} {nb : List (List Int)} {L R : List Int} (h : Mch n m nb L R) {E : List (Int × Int)} (hE : ∀ e ∈ E, edgeIn n m e = true ∧ e.2 ∈ nbl nb e.1.toNat) (hnb : ∀ l, ∀ r ∈ nbl nb l, ((l : Int), r) ∈ E) :
    (reachF R E n m).1.length = n ∧ (reachF R E n m).2.length = m ∧ (∀ i, sg (reachF R E n m).1 i ↔ RL nb n L R i) ∧ ∀ r, sg (reachF R E n m).2 r ↔ RR nb n L R r := by
  have hfg := freeF_get h.hR h.hRn m (Nat.le_refl m)
  have h0 : FIv n m nb L R (freeF R n m, List.replicate m false) := by
    refine ⟨freeF_len R n m, by simp, fun i hi => ?_, fun r hr => absurd hr (sg_none m r), fun r hr => absurd hr (sg_none m r), fun i hi h0 => ?_⟩
    · have hin : i < n := by
        have hfl := freeF_len R n m
        by_cases hh : i < n
        · exact hh
        · unfold sg at hi; rw [getD_out (by simp only; omega)] at hi; cases hi
      refine .free hin ?_
      have h1 := (hfg i hin).1 hi
      have hm := h.hLm i
      by_cases h2 : gi L i < 0
      · exact h2
      · have h3 := (h.hC i (gi L i).toNat).1 (by omega)
        exact absurd h3 (h1 _ (by omega))
    · exact (hfg i hi).2 fun r _ hr => by have := (h.hC i r).2 hr; omega
  obtain ⟨a1, a2⟩ := erun_iv h.hR h.hRn hE (m + 1) (freeF R n m, List.replicate m false) (by rw [uns_replicate]; omega) h0
  have hl : ∀ i, RL nb n L R i → sg (reachF R E n m).1 i := by
    intro i hi
    induction hi with
    | free a b => exact a1.hfr _ a b
    | @step l r l2 a b c ih =>
      have h2 := a2 _ (hnb _ _ b) (by rw [Int.toNat_natCast]; exact ih)
      have h3 := a1.hb _ h2 (by simp only; omega)
      simp only [c, Int.toNat_natCast] at h3
      exact h3
  refine ⟨a1.h1, a1.h2, fun i => ⟨a1.hl i, hl i⟩, fun r => ⟨a1.hr r, ?_⟩⟩
  rintro ⟨l, b1, b2⟩
  have := a2 _ (hnb _ _ b2) (by rw [Int.toNat_natCast]; exact hl l b1)
  rw [Int.toNat_natCast] at this
  exact this
/-- Neighbors and edges. -/
theorem foldl_nb_mem (E : List (Int × Int)) : ∀ (nb : List (List Int)) (l : Nat) (r : Int), (∀ e ∈ E, 0 ≤ e.1 ∧ e.1 < (nb.length : Int)) → (r ∈ nbl (E.foldl nbAdd nb) l ↔ r ∈ nbl nb l ∨ ((l : Int), r) ∈ E) := by
  induction E with
  | nil => intro nb l r _; simp
  | cons e E ih =>
    intro nb l r hE
    rw [List.foldl_cons, ih (nbAdd nb e) l r (fun x hx => by have := hE x (by simp [hx]); simpa [nbAdd] using this)]
    have he := hE e (by simp)
    have hm : r ∈ nbl (nbAdd nb e) l ↔ r ∈ nbl nb l ∨ ((l : Int), r) = e := by
      unfold nbl nbAdd
      by_cases h : e.1.toNat = l
      · subst h
        rw [Go.AM.getD_set_eq (by omega), List.mem_append]
        simp only [List.mem_singleton]
        rw [Int.toNat_of_nonneg he.1]
        constructor
        · rintro (h | rfl)
          · exact .inl h
          · exact .inr rfl
        · rintro (h | h)
          · exact .inl h
          · rw [← h]; exact .inr rfl
      · rw [Go.AM.getD_set_ne (by omega)]
        constructor
        · exact .inl
        · rintro (h1 | h1)
          · exact h1
          · rw [← h1] at h; simp at h
    rw [hm, List.mem_cons, or_assoc]
theorem nbOf_mem {n : Nat} {m : Int} {E : List (Int × Int)} (hE : ∀ e ∈ E, edgeIn n m e = true) (l : Nat) (r : Int) : r ∈ nbl (nbOf n E) l ↔ ((l : Int), r) ∈ E := by
  unfold nbOf
  rw [foldl_nb_mem E _ l r (fun e he => by have := edgeIn_iff.1 (hE e he); rw [List.length_replicate]; omega)]
  have : nbl (List.replicate n []) l = ([] : List Int) := by
    unfold nbl
    rw [List.getD_eq_getElem?_getD, List.getElem?_replicate]
    split <;> rfl
  rw [this]; simp
end Go.AM

namespace Go.Proofs.M
open Go.AM Go
set_option maxRecDepth 100000
set_option maxHeartbeats 2000000
theorem ints_snoc (l : List Int) (x : Int) : ints l ++ [[.int .i64 x]] = ints (l ++ [x]) := by simp [ints]
theorem ints_all (l : List Int) : (ints l).take l.length = ints l := List.take_of_length_le (by rw [ints_len]; exact Nat.le_refl _)
theorem reached_r {n m : Nat} (hn : n ≤ 512) (hm : m ≤ 512) {nb : List (List Int)} (h1 : nb.length = n) (h2 : ∀ row ∈ nb, ∀ r ∈ row, 0 ≤ r ∧ r < (m : Int)) (h3 : ∀ row ∈ nb, row.length ≤ 100000) {L R : List Int} (hM : Mch n m nb L R) :
    Reads Try.prog 33 true [.rptr [.rsl 1 (nbR nb), .rsl 1 (ints L), .rsl 1 (ints R)]] (.tup [.rsl 1 (ints (reachP nb L R n m).l), .rsl 1 (ints (reachP nb L R n m).q)]) := by
  have hL := hM.hL
  have hR := hM.hR
  have hz : List.replicate m [AV.bool false] = bools (List.replicate m false) := by simp [bools]
  have hnl := nbR_len nb
  obtain ⟨T, hT⟩ : ∃ T, reachP nb L R n m = T := ⟨_, rfl⟩
  have hT0 := hT
  rw [hT]
  unfold reachP at hT
  refine Reads.bodyF (rs := [.tmp 2, .tmp 3]) Try.func33 rfl Try.ntmps33 rfl (by simp) ?_
  generalize hQr : retQ _ _ _ = Qr
  refine AW.seq fun K1 hK1 => ?_
  -- region 0
  refine AW.regionK 0 (fun _ => none) [0, 2, 3] [15] ?_
  simp only [go_sem, reduceIte, reduceCtorEq, Nat.reduceAdd, Nat.reduceMul, Nat.reduceEqDiff, Nat.reduceLT, Nat.reduceLeDiff, Nat.reduceSub, Nat.reducePow, Nat.reduceBEq, Int.reduceToNat, List.reduceReplicate, ints_len, bools_len, hL, hR, hz, hnl, h1]
  repeat with_reducible refine cj ?_ ?_
  all_goals try first | omega
  refine hK1 _ _ _ ?_; clear hK1
  refine AW.seq fun K2 hK2 => ?_
  -- region 1
  refine AW.regionK 0 (fun _ => none) [0, 2, 3, 4] [15] ?_
  simp only [go_sem, reduceIte, reduceCtorEq, Nat.reduceAdd, Nat.reduceMul, Nat.reduceEqDiff, Nat.reduceLT, Nat.reduceLeDiff, Nat.reduceSub, Nat.reducePow, Nat.reduceBEq, Int.reduceToNat, List.reduceReplicate, ints_len, bools_len, hL, hR, hz, hnl, h1]
  repeat with_reducible refine cj ?_ ?_
  all_goals try first | omega
  refine hK2 _ _ _ ?_; clear hK2
  refine AW.seq fun K3 hK3 => ?_
  refine AW.seq fun K4 hK4 => ?_
  -- region 2
  refine AW.regionK 0 (fun _ => none) [0, 2, 3, 4, 19, 20, 21] [15] ?_
  simp only [go_sem, reduceIte, reduceCtorEq, Nat.reduceAdd, Nat.reduceMul, Nat.reduceEqDiff, Nat.reduceLT, Nat.reduceLeDiff, Nat.reduceSub, Nat.reducePow, Nat.reduceBEq, Int.reduceToNat, List.reduceReplicate, ints_len, bools_len, hL, hR, hz, hnl, h1]
  repeat with_reducible refine cj ?_ ?_
  all_goals try first | omega
  refine hK4 _ _ _ ?_; clear hK4
  refine AW.block ?_
  refine AW.nilOwn 2 200 1 (by simp only [go_sem, reduceIte, Nat.reduceEqDiff]) ?_
  refine AW.nilOwn 3 201 1 (by simp only [go_sem, reduceIte, Nat.reduceEqDiff]) ?_
  refine AW.keep [0, 2, 3, 4, 19, 20, 21] [15, 200, 201] ?_
  simp only [go_sem, reduceIte, Nat.reduceEqDiff]
  -- loop 1
  refine AW.loopE (fun mm ee ss kk => ∃ (j g4 v4 g2 v2 g3 v3 : Nat), n - j = mm ∧ ee = [(0, .rptr [.rsl 1 (nbR nb), .rsl 1 (ints L), .rsl 1 (ints R)]), (2, .sl ⟨200, g2, none⟩ 0 (frL L j).length none), (3, .sl ⟨201, g3, none⟩ 0 0 none), (4, .sl ⟨15, g4, none⟩ 0 m none), (19, .rsl 1 (ints L)), (20, .int .i64 n), (21, .int .i64 (j : Nat))] ∧ ss = [(15, some ⟨g4, v4, 1, bools (List.replicate m false)⟩), (200, some ⟨g2, v2, 1, ints (frL L j)⟩), (201, some ⟨g3, v3, 1, ints []⟩)] ∧ (j ≤ n)) ?_ ?_
  · refine ⟨_, 0, ?_, ?_, ?_, ?_, ?_, ?_, rfl, ?henv, ?hstore, ?hst⟩
    case henv =>
      repeat' (first | rfl | refine env_cons ?_ ?_ | refine st_cons ?_ ?_ ?_ ?_ | refine int_eq ?_ | refine bool_eq ?_ | refine rsl_eq ?_ | refine osl_eq ?_ | refine sl_eq ?_ ?_ ?_ | refine ptr_eq ?_ ?_ ?_ | refine agg_eq ?_ | refine es_cons ?_ ?_ | refine row_cons ?_ ?_)
      all_goals (first | (simp; done) | omega | (simp; omega))
    case hstore =>
      repeat' (first | rfl | refine env_cons ?_ ?_ | refine st_cons ?_ ?_ ?_ ?_ | refine int_eq ?_ | refine bool_eq ?_ | refine rsl_eq ?_ | refine osl_eq ?_ | refine sl_eq ?_ ?_ ?_ | refine ptr_eq ?_ ?_ ?_ | refine agg_eq ?_ | refine es_cons ?_ ?_ | refine row_cons ?_ ?_)
      all_goals (first | (simp; done) | omega | (simp; omega))
    case hst =>
      first | trivial | omega | (simp; done) | (simp; omega)
  rintro mm ee ss kk ⟨j, g4, v4, g2, v2, g3, v3, rfl, rfl, rfl, hI⟩
  generalize hQl1 : thenQ _ _ = Ql1
  refine AW.seq fun K5 hK5 => ?_
  -- region 3
  refine AW.regionK 0 (fun _ => none) [0, 2, 3, 4, 19, 20, 21, 22] [15, 200, 201] ?_
  simp only [go_sem, reduceIte, reduceCtorEq, Nat.reduceAdd, Nat.reduceMul, Nat.reduceEqDiff, Nat.reduceLT, Nat.reduceLeDiff, Nat.reduceSub, Nat.reducePow, Nat.reduceBEq, Int.reduceToNat, List.reduceReplicate, ints_len, bools_len, hL, hR, hz, hnl, h1]
  repeat with_reducible refine cj ?_ ?_
  all_goals try first | omega
  refine hK5 _ _ _ ?_; clear hK5
  refine AW.seq fun K6 hK6 => ?_
  -- cond 1
  refine AW.cond rfl (by simp only [go_sem, reduceIte, reduceCtorEq, Nat.reduceAdd, Nat.reduceMul, Nat.reduceEqDiff, Nat.reduceLT, Nat.reduceLeDiff, Nat.reduceSub, Nat.reducePow, Nat.reduceBEq, Int.reduceToNat, List.reduceReplicate]) ?_ ?_
  · intro hb
    try simp only [hB, decide_eq_true_eq, decide_eq_false_iff_not] at hb
    have hgl := ints_getD (l := L) (i := j) (by omega)
    have hsu := frL_succ L j
    have hle := frL_le L j
    have htk := ints_all (frL L j)
    have hsn := ints_snoc (frL L j) (j : Int)
    generalize hP : frL L j = P at *
    refine AW.skip ?_
    refine hK6 _ _ _ ?_; clear hK6
    refine AW.seq fun K7 hK7 => ?_
    refine AW.block ?_
    refine AW.seq fun K8 hK8 => ?_
    -- region 4
    refine AW.regionK 0 (fun _ => none) [0, 2, 3, 4, 5, 6, 19, 20, 21] [15, 200, 201] ?_
    simp only [go_sem, reduceIte, reduceCtorEq, Nat.reduceAdd, Nat.reduceMul, Nat.reduceEqDiff, Nat.reduceLT, Nat.reduceLeDiff, Nat.reduceSub, Nat.reducePow, Nat.reduceBEq, Int.reduceToNat, List.reduceReplicate, ints_len, bools_len, hL, hR, hz, hnl, h1, hgl]
    repeat with_reducible refine cj ?_ ?_
    all_goals try first | omega
    refine hK8 _ _ _ ?_; clear hK8
    refine AW.seq fun K9 hK9 => ?_
    -- region 5
    refine AW.regionK 0 (fun _ => none) [0, 2, 3, 4, 5, 19, 20, 21, 27] [15, 200, 201] ?_
    simp only [go_sem, reduceIte, reduceCtorEq, Nat.reduceAdd, Nat.reduceMul, Nat.reduceEqDiff, Nat.reduceLT, Nat.reduceLeDiff, Nat.reduceSub, Nat.reducePow, Nat.reduceBEq, Int.reduceToNat, List.reduceReplicate, ints_len, bools_len, hL, hR, hz, hnl, h1]
    repeat with_reducible refine cj ?_ ?_
    all_goals try first | omega
    refine hK9 _ _ _ ?_; clear hK9
    -- cond 2
    refine AW.cond rfl (by simp only [go_sem, reduceIte, reduceCtorEq, Nat.reduceAdd, Nat.reduceMul, Nat.reduceEqDiff, Nat.reduceLT, Nat.reduceLeDiff, Nat.reduceSub, Nat.reducePow, Nat.reduceBEq, Int.reduceToNat, List.reduceReplicate]) ?_ ?_
    · intro hb
      try simp only [hB, decide_eq_true_eq, decide_eq_false_iff_not] at hb
      rw [if_pos hb] at hsu
      -- region 6
      refine AW.regionK 0 (fun _ => none) [0, 2, 3, 4, 19, 20, 21] [15, 200, 201] ?_
      simp only [go_sem, reduceIte, reduceCtorEq, Nat.reduceAdd, Nat.reduceMul, Nat.reduceEqDiff, Nat.reduceLT, Nat.reduceLeDiff, Nat.reduceSub, Nat.reducePow, Nat.reduceBEq, Int.reduceToNat, List.reduceReplicate, ints_len, bools_len, hL, hR, hz, hnl, h1, htk, hsn]
      repeat with_reducible refine cj ?_ ?_
      all_goals try first | omega | (simp [scP, scalar]; done) | exact scP_words _ | exact scP_ints _ | exact scP_bools _
      refine hK7 _ _ _ ?_; clear hK7
      -- region 7
      refine AW.regionK 0 (fun _ => none) [0, 2, 3, 4, 19, 20, 21] [15, 200, 201] ?_
      simp only [go_sem, reduceIte, reduceCtorEq, Nat.reduceAdd, Nat.reduceMul, Nat.reduceEqDiff, Nat.reduceLT, Nat.reduceLeDiff, Nat.reduceSub, Nat.reducePow, Nat.reduceBEq, Int.reduceToNat, List.reduceReplicate, ints_len, bools_len, hL, hR, hz, hnl, h1]
      repeat with_reducible refine cj ?_ ?_
      all_goals try first | omega
      rw [← hQl1]
      change Exists _
      refine ⟨_, ?hm, j + 1, ?_, ?_, ?_, ?_, ?_, ?_, rfl, ?henv, ?hstore, ?hst⟩
      case henv =>
        repeat' (first | rfl | refine env_cons ?_ ?_ | refine st_cons ?_ ?_ ?_ ?_ | refine int_eq ?_ | refine bool_eq ?_ | refine rsl_eq ?_ | refine osl_eq ?_ | refine sl_eq ?_ ?_ ?_ | refine ptr_eq ?_ ?_ ?_ | refine agg_eq ?_ | refine es_cons ?_ ?_ | refine row_cons ?_ ?_)
        all_goals (rw [hsu]; try simp)
      case hstore =>
        repeat' (first | rfl | refine env_cons ?_ ?_ | refine st_cons ?_ ?_ ?_ ?_ | refine int_eq ?_ | refine bool_eq ?_ | refine rsl_eq ?_ | refine osl_eq ?_ | refine sl_eq ?_ ?_ ?_ | refine ptr_eq ?_ ?_ ?_ | refine agg_eq ?_ | refine es_cons ?_ ?_ | refine row_cons ?_ ?_)
        all_goals (rw [hsu])
      case hst =>
        first | trivial | omega | (simp; done) | (simp; omega)
      case hm => omega
    · intro hb
      try simp only [hB, decide_eq_true_eq, decide_eq_false_iff_not] at hb
      rw [if_neg (by omega)] at hsu
      refine AW.skip ?_
      refine hK7 _ _ _ ?_; clear hK7
      -- region 7
      refine AW.regionK 0 (fun _ => none) [0, 2, 3, 4, 19, 20, 21] [15, 200, 201] ?_
      simp only [go_sem, reduceIte, reduceCtorEq, Nat.reduceAdd, Nat.reduceMul, Nat.reduceEqDiff, Nat.reduceLT, Nat.reduceLeDiff, Nat.reduceSub, Nat.reducePow, Nat.reduceBEq, Int.reduceToNat, List.reduceReplicate, ints_len, bools_len, hL, hR, hz, hnl, h1]
      repeat with_reducible refine cj ?_ ?_
      all_goals try first | omega
      rw [← hQl1]
      change Exists _
      refine ⟨_, ?hm, j + 1, ?_, ?_, ?_, ?_, ?_, ?_, rfl, ?henv, ?hstore, ?hst⟩
      case henv =>
        repeat' (first | rfl | refine env_cons ?_ ?_ | refine st_cons ?_ ?_ ?_ ?_ | refine int_eq ?_ | refine bool_eq ?_ | refine rsl_eq ?_ | refine osl_eq ?_ | refine sl_eq ?_ ?_ ?_ | refine ptr_eq ?_ ?_ ?_ | refine agg_eq ?_ | refine es_cons ?_ ?_ | refine row_cons ?_ ?_)
        all_goals (rw [hsu]; try simp)
      case hstore =>
        repeat' (first | rfl | refine env_cons ?_ ?_ | refine st_cons ?_ ?_ ?_ ?_ | refine int_eq ?_ | refine bool_eq ?_ | refine rsl_eq ?_ | refine osl_eq ?_ | refine sl_eq ?_ ?_ ?_ | refine ptr_eq ?_ ?_ ?_ | refine agg_eq ?_ | refine es_cons ?_ ?_ | refine row_cons ?_ ?_)
        all_goals (rw [hsu])
      case hst =>
        first | trivial | omega | (simp; done) | (simp; omega)
      case hm => omega
  · intro hb
    try simp only [hB, decide_eq_true_eq, decide_eq_false_iff_not] at hb
    have hj : n = j := by omega
    subst hj
    refine AW.exit ?_
    rw [← hQl1]
    refine hK3 _ _ _ ?_; clear hK3
    refine AW.seq fun K10 hK10 => ?_
    refine AW.seq fun K11 hK11 => ?_
    -- region 8
    refine AW.regionK 0 (fun _ => none) [0, 2, 3, 4, 7] [15, 200, 201] ?_
    simp only [go_sem, reduceIte, reduceCtorEq, Nat.reduceAdd, Nat.reduceMul, Nat.reduceEqDiff, Nat.reduceLT, Nat.reduceLeDiff, Nat.reduceSub, Nat.reducePow, Nat.reduceBEq, Int.reduceToNat, List.reduceReplicate, ints_len, bools_len, hL, hR, hz, hnl, h1]
    repeat with_reducible refine cj ?_ ?_
    all_goals try first | omega
    refine hK11 _ _ _ ?_; clear hK11
    refine AW.block ?_
    -- loop 2
    refine AW.loopE (fun mm ee ss kk => ∃ (i fu g4 v4 g2 v2 g3 v3 : Nat) (t : RSt), fu + 1 = mm ∧ ee = [(0, .rptr [.rsl 1 (nbR nb), .rsl 1 (ints L), .rsl 1 (ints R)]), (2, .sl ⟨200, g2, none⟩ 0 t.l.length none), (3, .sl ⟨201, g3, none⟩ 0 t.q.length none), (4, .sl ⟨15, g4, none⟩ 0 m none), (7, .int .i64 (i : Nat))] ∧ ss = [(15, some ⟨g4, v4, 1, bools t.s⟩), (200, some ⟨g2, v2, 1, ints t.l⟩), (201, some ⟨g3, v3, 1, ints t.q⟩)] ∧ (RIv n m nb L R t ∧ i ≤ t.l.length ∧ t.l.length + uns t.s < fu + i ∧ rrun nb R fu i t = T)) ?_ ?_
    · refine ⟨_, 0, (n + m + 1), ?_, ?_, ?_, ?_, ?_, ?_, ⟨List.replicate m false, frL L n, []⟩, rfl, ?henv, ?hstore, ?hst⟩
      case henv =>
        repeat' (first | rfl | refine env_cons ?_ ?_ | refine st_cons ?_ ?_ ?_ ?_ | refine int_eq ?_ | refine bool_eq ?_ | refine rsl_eq ?_ | refine osl_eq ?_ | refine sl_eq ?_ ?_ ?_ | refine ptr_eq ?_ ?_ ?_ | refine agg_eq ?_ | refine es_cons ?_ ?_ | refine row_cons ?_ ?_)
        all_goals (first | (simp; done) | omega | (simp; omega))
      case hstore =>
        repeat' (first | rfl | refine env_cons ?_ ?_ | refine st_cons ?_ ?_ ?_ ?_ | refine int_eq ?_ | refine bool_eq ?_ | refine rsl_eq ?_ | refine osl_eq ?_ | refine sl_eq ?_ ?_ ?_ | refine ptr_eq ?_ ?_ ?_ | refine agg_eq ?_ | refine es_cons ?_ ?_ | refine row_cons ?_ ?_)
        all_goals (first | (simp; done) | omega | (simp; omega))
      case hst =>
        exact ⟨reach_iv0 hL, by omega, by have := frL_le L n; rw [uns_replicate]; simp only; omega, hT⟩
    rintro mm ee ss kk ⟨i, fu, g4, v4, g2, v2, g3, v3, t, rfl, rfl, rfl, hI⟩
    generalize hQl2 : thenQ _ _ = Ql2
    obtain ⟨hiv, hil, hfu, hrun⟩ := hI
    have hsl := hiv.hs
    have hll := hiv.hlen
    have hql := hiv.hlq
    refine AW.seq fun K12 hK12 => ?_
    refine AW.seq fun K13 hK13 => ?_
    -- region 9
    refine AW.regionK 0 (fun _ => none) [0, 2, 3, 4, 7, 36] [15, 200, 201] ?_
    simp only [go_sem, reduceIte, reduceCtorEq, Nat.reduceAdd, Nat.reduceMul, Nat.reduceEqDiff, Nat.reduceLT, Nat.reduceLeDiff, Nat.reduceSub, Nat.reducePow, Nat.reduceBEq, Int.reduceToNat, List.reduceReplicate, ints_len, bools_len, hL, hR, hz, hnl, h1]
    repeat with_reducible refine cj ?_ ?_
    all_goals try first | omega
    refine hK13 _ _ _ ?_; clear hK13
    -- cond 3
    refine AW.cond rfl (by simp only [go_sem, reduceIte, reduceCtorEq, Nat.reduceAdd, Nat.reduceMul, Nat.reduceEqDiff, Nat.reduceLT, Nat.reduceLeDiff, Nat.reduceSub, Nat.reducePow, Nat.reduceBEq, Int.reduceToNat, List.reduceReplicate]) ?_ ?_
    · intro hb
      try simp only [hB, decide_eq_true_eq, decide_eq_false_iff_not] at hb
      obtain ⟨fu, rfl⟩ : ∃ f, fu = f + 1 := ⟨fu - 1, by omega⟩
      unfold rrun at hrun
      rw [if_pos (by omega)] at hrun
      obtain ⟨l, hle, hln, hRL⟩ := hiv.hl (t.l.getD i 0) (mem_getD (by omega) 0)
      have hgl := ints_getD (l := t.l) (i := i) (by omega)
      rw [hle] at hgl hrun
      rw [Int.toNat_natCast] at hrun
      obtain ⟨row, hrow⟩ := getI (l := nb) (j := l) (by omega)
      have hgn := nbR_get hrow
      have hrd : nb.getD l [] = row := by rw [List.getD_eq_getElem?_getD, hrow]; rfl
      have hrl := h3 row (List.mem_of_getElem? hrow)
      have hrr := h2 row (List.mem_of_getElem? hrow)
      rw [hrd] at hrun
      have hriv := rrow_iv hR hM.hRn hRL row t hiv (fun r hr => ⟨by show r ∈ nb.getD l []; rw [hrd]; exact hr, hrr r hr⟩)
      generalize hU : rrow R row t = U at *
      refine AW.skip ?_
      refine hK12 _ _ _ ?_; clear hK12
      refine AW.seq fun K14 hK14 => ?_
      refine AW.block ?_
      refine AW.seq fun K15 hK15 => ?_
      -- region 11
      refine AW.regionD mixed 0 (fun _ => none) [0, 2, 3, 4, 7, 48, 49, 50] [15, 200, 201] ?_
      simp only [go_sem, reduceIte, reduceCtorEq, Nat.reduceAdd, Nat.reduceMul, Nat.reduceEqDiff, Nat.reduceLT, Nat.reduceLeDiff, Nat.reduceSub, Nat.reducePow, Nat.reduceBEq, Int.reduceToNat, List.reduceReplicate, ints_len, bools_len, hL, hR, hz, hnl, h1, hgl, hgn, Int.toNat_natCast]
      repeat with_reducible refine cj ?_ ?_
      all_goals try first | omega | exact chk (by kernel_rfl)
      refine hK15 _ _ _ ?_; clear hK15
      refine AW.block ?_
      -- loop 3
      refine AW.loopE (fun mm ee ss kk => ∃ (j g4 v4 g2 v2 g3 v3 : Nat) (u : RSt), row.length - j = mm ∧ ee = [(0, .rptr [.rsl 1 (nbR nb), .rsl 1 (ints L), .rsl 1 (ints R)]), (2, .sl ⟨200, g2, none⟩ 0 u.l.length none), (3, .sl ⟨201, g3, none⟩ 0 u.q.length none), (4, .sl ⟨15, g4, none⟩ 0 m none), (7, .int .i64 (i : Nat)), (48, .rsl 1 (ints row)), (49, .int .i64 row.length), (50, .int .i64 (j : Nat))] ∧ ss = [(15, some ⟨g4, v4, 1, bools u.s⟩), (200, some ⟨g2, v2, 1, ints u.l⟩), (201, some ⟨g3, v3, 1, ints u.q⟩)] ∧ (RIv n m nb L R u ∧ j ≤ row.length ∧ rrow R (row.drop j) u = U)) ?_ ?_
      · refine ⟨_, 0, ?_, ?_, ?_, ?_, ?_, ?_, t, rfl, ?henv, ?hstore, ?hst⟩
        case henv =>
          repeat' (first | rfl | refine env_cons ?_ ?_ | refine st_cons ?_ ?_ ?_ ?_ | refine int_eq ?_ | refine bool_eq ?_ | refine rsl_eq ?_ | refine osl_eq ?_ | refine sl_eq ?_ ?_ ?_ | refine ptr_eq ?_ ?_ ?_ | refine agg_eq ?_ | refine es_cons ?_ ?_ | refine row_cons ?_ ?_)
          all_goals (first | (simp; done) | omega | (simp; omega))
        case hstore =>
          repeat' (first | rfl | refine env_cons ?_ ?_ | refine st_cons ?_ ?_ ?_ ?_ | refine int_eq ?_ | refine bool_eq ?_ | refine rsl_eq ?_ | refine osl_eq ?_ | refine sl_eq ?_ ?_ ?_ | refine ptr_eq ?_ ?_ ?_ | refine agg_eq ?_ | refine es_cons ?_ ?_ | refine row_cons ?_ ?_)
          all_goals (first | (simp; done) | omega | (simp; omega))
        case hst =>
          exact ⟨hiv, by omega, hU⟩
      rintro mm ee ss kk ⟨j, g4, v4, g2, v2, g3, v3, u, rfl, rfl, rfl, hI⟩
      generalize hQl3 : thenQ _ _ = Ql3
      obtain ⟨hiu, hjl, hro⟩ := hI
      have hsl2 := hiu.hs
      have hll2 := hiu.hlen
      have hql2 := hiu.hlq
      refine AW.seq fun K16 hK16 => ?_
      -- region 12
      refine AW.regionK 0 (fun _ => none) [0, 2, 3, 4, 7, 48, 49, 50, 51] [15, 200, 201] ?_
      simp only [go_sem, reduceIte, reduceCtorEq, Nat.reduceAdd, Nat.reduceMul, Nat.reduceEqDiff, Nat.reduceLT, Nat.reduceLeDiff, Nat.reduceSub, Nat.reducePow, Nat.reduceBEq, Int.reduceToNat, List.reduceReplicate, ints_len, bools_len, hL, hR, hz, hnl, h1]
      repeat with_reducible refine cj ?_ ?_
      all_goals try first | omega
      refine hK16 _ _ _ ?_; clear hK16
      refine AW.seq fun K17 hK17 => ?_
      -- cond 4
      refine AW.cond rfl (by simp only [go_sem, reduceIte, reduceCtorEq, Nat.reduceAdd, Nat.reduceMul, Nat.reduceEqDiff, Nat.reduceLT, Nat.reduceLeDiff, Nat.reduceSub, Nat.reducePow, Nat.reduceBEq, Int.reduceToNat, List.reduceReplicate]) ?_ ?_
      · intro hb
        try simp only [hB, decide_eq_true_eq, decide_eq_false_iff_not] at hb
        obtain ⟨r, hr⟩ := getI (l := row) (j := j) (by omega)
        have hgr := ints_get hr
        have hrm := hrr r (List.mem_of_getElem? hr)
        have hgs := bools_getD (l := u.s) (i := r.toNat) (by omega)
        have hgR := ints_getD (l := R) (i := r.toNat) (by omega)
        have hus := bools_upd u.s r.toNat true
        have hdr : row.drop j = r :: row.drop (j + 1) := by rw [List.drop_eq_getElem_cons (by omega)]; congr 1; exact (List.getElem?_eq_some_iff.1 hr).2
        rw [hdr] at hro
        unfold rrow at hro
        have hst := (rstep_iv hR hM.hRn hiu hRL (r := r) (by show r ∈ nb.getD l []; rw [hrd]; exact List.mem_of_getElem? hr) hrm).1
        have htq := ints_all u.q
        have hsq := ints_snoc u.q r
        have htl := ints_all u.l
        have hsl3 := ints_snoc u.l (R.getD r.toNat 0)
        refine AW.skip ?_
        refine hK17 _ _ _ ?_; clear hK17
        refine AW.seq fun K18 hK18 => ?_
        refine AW.block ?_
        refine AW.seq fun K19 hK19 => ?_
        -- region 13
        refine AW.regionK 0 (fun _ => none) [0, 2, 3, 4, 7, 9, 48, 49, 50] [15, 200, 201] ?_
        simp only [go_sem, reduceIte, reduceCtorEq, Nat.reduceAdd, Nat.reduceMul, Nat.reduceEqDiff, Nat.reduceLT, Nat.reduceLeDiff, Nat.reduceSub, Nat.reducePow, Nat.reduceBEq, Int.reduceToNat, List.reduceReplicate, ints_len, bools_len, hL, hR, hz, hnl, h1, hgr]
        repeat with_reducible refine cj ?_ ?_
        all_goals try first | omega
        refine hK19 _ _ _ ?_; clear hK19
        refine AW.seq fun K20 hK20 => ?_
        refine AW.seq fun K21 hK21 => ?_
        -- region 14
        refine AW.regionK 0 (fun _ => none) [0, 2, 3, 4, 7, 9, 48, 49, 50, 57] [15, 200, 201] ?_
        simp only [go_sem, reduceIte, reduceCtorEq, Nat.reduceAdd, Nat.reduceMul, Nat.reduceEqDiff, Nat.reduceLT, Nat.reduceLeDiff, Nat.reduceSub, Nat.reducePow, Nat.reduceBEq, Int.reduceToNat, List.reduceReplicate, ints_len, bools_len, hL, hR, hz, hnl, h1, hsl2, hgs]
        repeat with_reducible refine cj ?_ ?_
        all_goals try first | omega
        refine hK21 _ _ _ ?_; clear hK21
        -- cond 5
        refine AW.cond rfl (by simp only [go_sem, reduceIte, reduceCtorEq, Nat.reduceAdd, Nat.reduceMul, Nat.reduceEqDiff, Nat.reduceLT, Nat.reduceLeDiff, Nat.reduceSub, Nat.reducePow, Nat.reduceBEq, Int.reduceToNat, List.reduceReplicate]) ?_ ?_
        · intro hb
          try simp only [hB, decide_eq_true_eq, decide_eq_false_iff_not] at hb
          unfold rstep at hst hro
          rw [if_pos hb] at hst hro
          obtain ⟨w, hw⟩ : ∃ w, w = u := ⟨_, rfl⟩
          refine AW.exit ?_
          refine hK18 _ _ _ ?_; clear hK18
          -- region 19
          refine AW.regionK 0 (fun _ => none) [0, 2, 3, 4, 7, 48, 49, 50] [15, 200, 201] ?_
          simp only [go_sem, reduceIte, reduceCtorEq, Nat.reduceAdd, Nat.reduceMul, Nat.reduceEqDiff, Nat.reduceLT, Nat.reduceLeDiff, Nat.reduceSub, Nat.reducePow, Nat.reduceBEq, Int.reduceToNat, List.reduceReplicate, ints_len, bools_len, hL, hR, hz, hnl, h1]
          repeat with_reducible refine cj ?_ ?_
          all_goals try first | omega
          rw [← hQl3]
          change Exists _
          refine ⟨_, ?hm, j + 1, ?_, ?_, ?_, ?_, ?_, ?_, w, rfl, ?henv, ?hstore, ?hst⟩
          case henv =>
            repeat' (first | rfl | refine env_cons ?_ ?_ | refine st_cons ?_ ?_ ?_ ?_ | refine int_eq ?_ | refine bool_eq ?_ | refine rsl_eq ?_ | refine osl_eq ?_ | refine sl_eq ?_ ?_ ?_ | refine ptr_eq ?_ ?_ ?_ | refine agg_eq ?_ | refine es_cons ?_ ?_ | refine row_cons ?_ ?_)
            all_goals (first | (rw [hw]; done) | (rw [hw]; simp; done) | omega | (simp; done))
          case hstore =>
            repeat' (first | rfl | refine env_cons ?_ ?_ | refine st_cons ?_ ?_ ?_ ?_ | refine int_eq ?_ | refine bool_eq ?_ | refine rsl_eq ?_ | refine osl_eq ?_ | refine sl_eq ?_ ?_ ?_ | refine ptr_eq ?_ ?_ ?_ | refine agg_eq ?_ | refine es_cons ?_ ?_ | refine row_cons ?_ ?_)
            all_goals (rw [hw])
          case hst =>
            rw [← hw] at hst hro
            exact ⟨hst, by omega, hro⟩
          case hm => omega
        · intro hb
          try simp only [hB, decide_eq_true_eq, decide_eq_false_iff_not] at hb
          unfold rstep at hst hro
          rw [if_neg (by rw [hb]; simp)] at hst hro
          refine AW.skip ?_
          refine hK20 _ _ _ ?_; clear hK20
          refine AW.seq fun K22 hK22 => ?_
          -- region 15
          refine AW.regionK 0 (fun _ => none) [0, 2, 3, 4, 7, 9, 48, 49, 50] [15, 200, 201] ?_
          simp only [go_sem, reduceIte, reduceCtorEq, Nat.reduceAdd, Nat.reduceMul, Nat.reduceEqDiff, Nat.reduceLT, Nat.reduceLeDiff, Nat.reduceSub, Nat.reducePow, Nat.reduceBEq, Int.reduceToNat, List.reduceReplicate, ints_len, bools_len, hL, hR, hz, hnl, h1, hsl2, hus]
          repeat with_reducible refine cj ?_ ?_
          all_goals try first | omega
          refine hK22 _ _ _ ?_; clear hK22
          refine AW.seq fun K23 hK23 => ?_
          -- region 16
          refine AW.regionK 0 (fun _ => none) [0, 2, 3, 4, 7, 9, 48, 49, 50] [15, 200, 201] ?_
          simp only [go_sem, reduceIte, reduceCtorEq, Nat.reduceAdd, Nat.reduceMul, Nat.reduceEqDiff, Nat.reduceLT, Nat.reduceLeDiff, Nat.reduceSub, Nat.reducePow, Nat.reduceBEq, Int.reduceToNat, List.reduceReplicate, ints_len, bools_len, hL, hR, hz, hnl, h1, htq, hsq]
          repeat with_reducible refine cj ?_ ?_
          all_goals try first | omega | (simp [scP, scalar]; done) | exact scP_words _ | exact scP_ints _ | exact scP_bools _
          refine hK23 _ _ _ ?_; clear hK23
          refine AW.seq fun K24 hK24 => ?_
          -- region 17
          refine AW.regionK 0 (fun _ => none) [0, 2, 3, 4, 7, 9, 48, 49, 50, 72] [15, 200, 201] ?_
          simp only [go_sem, reduceIte, reduceCtorEq, Nat.reduceAdd, Nat.reduceMul, Nat.reduceEqDiff, Nat.reduceLT, Nat.reduceLeDiff, Nat.reduceSub, Nat.reducePow, Nat.reduceBEq, Int.reduceToNat, List.reduceReplicate, ints_len, bools_len, hL, hR, hz, hnl, h1, hgR]
          repeat with_reducible refine cj ?_ ?_
          all_goals try first | omega
          refine hK24 _ _ _ ?_; clear hK24
          -- cond 6
          refine AW.cond rfl (by simp only [go_sem, reduceIte, reduceCtorEq, Nat.reduceAdd, Nat.reduceMul, Nat.reduceEqDiff, Nat.reduceLT, Nat.reduceLeDiff, Nat.reduceSub, Nat.reducePow, Nat.reduceBEq, Int.reduceToNat, List.reduceReplicate]) ?_ ?_
          · intro hb
            try simp only [hB, decide_eq_true_eq, decide_eq_false_iff_not] at hb
            rw [if_pos hb] at hst hro
            obtain ⟨w, hw⟩ : ∃ w : RSt, w = ⟨u.s.set r.toNat true, u.l ++ [R.getD r.toNat 0], u.q ++ [r]⟩ := ⟨_, rfl⟩
            -- region 18
            refine AW.regionK 0 (fun _ => none) [0, 2, 3, 4, 7, 48, 49, 50] [15, 200, 201] ?_
            simp only [go_sem, reduceIte, reduceCtorEq, Nat.reduceAdd, Nat.reduceMul, Nat.reduceEqDiff, Nat.reduceLT, Nat.reduceLeDiff, Nat.reduceSub, Nat.reducePow, Nat.reduceBEq, Int.reduceToNat, List.reduceReplicate, ints_len, bools_len, hL, hR, hz, hnl, h1, hgR, htl, hsl3]
            repeat with_reducible refine cj ?_ ?_
            all_goals try first | omega | (simp [scP, scalar]; done) | exact scP_words _ | exact scP_ints _ | exact scP_bools _
            refine hK18 _ _ _ ?_; clear hK18
            -- region 19
            refine AW.regionK 0 (fun _ => none) [0, 2, 3, 4, 7, 48, 49, 50] [15, 200, 201] ?_
            simp only [go_sem, reduceIte, reduceCtorEq, Nat.reduceAdd, Nat.reduceMul, Nat.reduceEqDiff, Nat.reduceLT, Nat.reduceLeDiff, Nat.reduceSub, Nat.reducePow, Nat.reduceBEq, Int.reduceToNat, List.reduceReplicate, ints_len, bools_len, hL, hR, hz, hnl, h1]
            repeat with_reducible refine cj ?_ ?_
            all_goals try first | omega
            rw [← hQl3]
            change Exists _
            refine ⟨_, ?hm, j + 1, ?_, ?_, ?_, ?_, ?_, ?_, w, rfl, ?henv, ?hstore, ?hst⟩
            case henv =>
              repeat' (first | rfl | refine env_cons ?_ ?_ | refine st_cons ?_ ?_ ?_ ?_ | refine int_eq ?_ | refine bool_eq ?_ | refine rsl_eq ?_ | refine osl_eq ?_ | refine sl_eq ?_ ?_ ?_ | refine ptr_eq ?_ ?_ ?_ | refine agg_eq ?_ | refine es_cons ?_ ?_ | refine row_cons ?_ ?_)
              all_goals (first | (rw [hw]; done) | (rw [hw]; simp; done) | omega | (simp; done))
            case hstore =>
              repeat' (first | rfl | refine env_cons ?_ ?_ | refine st_cons ?_ ?_ ?_ ?_ | refine int_eq ?_ | refine bool_eq ?_ | refine rsl_eq ?_ | refine osl_eq ?_ | refine sl_eq ?_ ?_ ?_ | refine ptr_eq ?_ ?_ ?_ | refine agg_eq ?_ | refine es_cons ?_ ?_ | refine row_cons ?_ ?_)
              all_goals (rw [hw])
            case hst =>
              rw [← hw] at hst hro
              exact ⟨hst, by omega, hro⟩
            case hm => omega
          · intro hb
            try simp only [hB, decide_eq_true_eq, decide_eq_false_iff_not] at hb
            rw [if_neg (by omega)] at hst hro
            obtain ⟨w, hw⟩ : ∃ w : RSt, w = ⟨u.s.set r.toNat true, u.l, u.q ++ [r]⟩ := ⟨_, rfl⟩
            refine AW.skip ?_
            refine hK18 _ _ _ ?_; clear hK18
            -- region 19
            refine AW.regionK 0 (fun _ => none) [0, 2, 3, 4, 7, 48, 49, 50] [15, 200, 201] ?_
            simp only [go_sem, reduceIte, reduceCtorEq, Nat.reduceAdd, Nat.reduceMul, Nat.reduceEqDiff, Nat.reduceLT, Nat.reduceLeDiff, Nat.reduceSub, Nat.reducePow, Nat.reduceBEq, Int.reduceToNat, List.reduceReplicate, ints_len, bools_len, hL, hR, hz, hnl, h1]
            repeat with_reducible refine cj ?_ ?_
            all_goals try first | omega
            rw [← hQl3]
            change Exists _
            refine ⟨_, ?hm, j + 1, ?_, ?_, ?_, ?_, ?_, ?_, w, rfl, ?henv, ?hstore, ?hst⟩
            case henv =>
              repeat' (first | rfl | refine env_cons ?_ ?_ | refine st_cons ?_ ?_ ?_ ?_ | refine int_eq ?_ | refine bool_eq ?_ | refine rsl_eq ?_ | refine osl_eq ?_ | refine sl_eq ?_ ?_ ?_ | refine ptr_eq ?_ ?_ ?_ | refine agg_eq ?_ | refine es_cons ?_ ?_ | refine row_cons ?_ ?_)
              all_goals (first | (rw [hw]; done) | (rw [hw]; simp; done) | omega | (simp; done))
            case hstore =>
              repeat' (first | rfl | refine env_cons ?_ ?_ | refine st_cons ?_ ?_ ?_ ?_ | refine int_eq ?_ | refine bool_eq ?_ | refine rsl_eq ?_ | refine osl_eq ?_ | refine sl_eq ?_ ?_ ?_ | refine ptr_eq ?_ ?_ ?_ | refine agg_eq ?_ | refine es_cons ?_ ?_ | refine row_cons ?_ ?_)
              all_goals (rw [hw])
            case hst =>
              rw [← hw] at hst hro
              exact ⟨hst, by omega, hro⟩
            case hm => omega
      · intro hb
        try simp only [hB, decide_eq_true_eq, decide_eq_false_iff_not] at hb
        have hj : j = row.length := by omega
        rw [hj, List.drop_length] at hro
        unfold rrow at hro
        subst hro
        refine AW.exit ?_
        rw [← hQl3]
        refine hK14 _ _ _ ?_; clear hK14
        -- region 10
        refine AW.regionK 0 (fun _ => none) [0, 2, 3, 4, 7] [15, 200, 201] ?_
        simp only [go_sem, reduceIte, reduceCtorEq, Nat.reduceAdd, Nat.reduceMul, Nat.reduceEqDiff, Nat.reduceLT, Nat.reduceLeDiff, Nat.reduceSub, Nat.reducePow, Nat.reduceBEq, Int.reduceToNat, List.reduceReplicate, ints_len, bools_len, hL, hR, hz, hnl, h1]
        repeat with_reducible refine cj ?_ ?_
        all_goals try first | omega
        rw [← hQl2]
        change Exists _
        refine ⟨_, ?hm, i + 1, fu, ?_, ?_, ?_, ?_, ?_, ?_, ?_, rfl, ?henv, ?hstore, ?hst⟩
        case henv =>
          repeat' (first | rfl | refine env_cons ?_ ?_ | refine st_cons ?_ ?_ ?_ ?_ | refine int_eq ?_ | refine bool_eq ?_ | refine rsl_eq ?_ | refine osl_eq ?_ | refine sl_eq ?_ ?_ ?_ | refine ptr_eq ?_ ?_ ?_ | refine agg_eq ?_ | refine es_cons ?_ ?_ | refine row_cons ?_ ?_)
          all_goals (first | (simp; done) | omega | (simp; omega))
        case hstore =>
          repeat' (first | rfl | refine env_cons ?_ ?_ | refine st_cons ?_ ?_ ?_ ?_ | refine int_eq ?_ | refine bool_eq ?_ | refine rsl_eq ?_ | refine osl_eq ?_ | refine sl_eq ?_ ?_ ?_ | refine ptr_eq ?_ ?_ ?_ | refine agg_eq ?_ | refine es_cons ?_ ?_ | refine row_cons ?_ ?_)
          all_goals (first | (simp; done) | omega | (simp; omega))
        case hst =>
          exact ⟨hiu, by obtain ⟨z, hz⟩ := hriv.2.1.hl; rw [hz, List.length_append]; omega, by have := hriv.2.1.hu; omega, hrun⟩
        case hm => omega
    · intro hb
      try simp only [hB, decide_eq_true_eq, decide_eq_false_iff_not] at hb
      have hTt : t = T := by
        cases fu with
        | zero => exact hrun
        | succ f => unfold rrun at hrun; rw [if_neg (by omega)] at hrun; exact hrun
      subst hTt
      refine AW.exit ?_
      rw [← hQl2]
      refine hK10 _ _ _ ?_; clear hK10
      refine AW.seq fun K25 hK25 => ?_
      -- region 20
      refine AW.regionK 0 (fun _ => none) [2, 3] [15, 200, 201] ?_
      simp only [go_sem, reduceIte, reduceCtorEq, Nat.reduceAdd, Nat.reduceMul, Nat.reduceEqDiff, Nat.reduceLT, Nat.reduceLeDiff, Nat.reduceSub, Nat.reducePow, Nat.reduceBEq, Int.reduceToNat, List.reduceReplicate, ints_len, bools_len, hL, hR, hz, hnl, h1]
      repeat with_reducible refine cj ?_ ?_
      all_goals try first | omega
      refine hK25 _ _ _ ?_; clear hK25
      refine AW.ret ?_
      rw [← hQr]
      simp only [go_sem, reduceIte, reduceCtorEq, Nat.reduceAdd, Nat.reduceMul, Nat.reduceEqDiff, Nat.reduceLT, Nat.reduceLeDiff, Nat.reduceSub, Nat.reducePow, Nat.reduceBEq, Int.reduceToNat, List.reduceReplicate, ints_len, bools_len, hL, hR, hz, hnl, h1]
      exact Wk.of_eq (by simp only [ints_all])
end Go.Proofs.M

/- Levels of an order; tables filled pair by pair. -/
namespace Go.AM
structure IsLev (n : Nat) (t : List (List Bool)) (o : List Int) : Prop where
  len : o.length = n
  pos : ∀ j, j < n → 0 ≤ o.getD j 0
  up : ∀ i j, i < n → j < n → atT t i j = true → o.getD i 0 + 1 ≤ o.getD j 0
  att : ∀ j, j < n → o.getD j 0 = 0 ∨ ∃ i, i < n ∧ atT t i j = true ∧ o.getD j 0 = o.getD i 0 + 1
theorem lev_le {n : Nat} {t : List (List Bool)} {o o' : List Int} (h : IsLev n t o) (hp : ∀ j, j < n → 0 ≤ o'.getD j 0) (hu : ∀ i j, i < n → j < n → atT t i j = true → o'.getD i 0 + 1 ≤ o'.getD j 0) :
    ∀ (m : Nat) (j : Nat), j < n → o.getD j 0 ≤ m → o.getD j 0 ≤ o'.getD j 0
  | 0, j, hj, hm => by have := hp j hj; omega
  | m + 1, j, hj, hm => by
    rcases h.att j hj with h0 | ⟨i, hi, ha, he⟩
    · have := hp j hj; omega
    · have := lev_le h hp hu m i hi (by omega)
      have := hu i j hi hj ha
      omega
/-! ### The program: along an order. -/
def levJ (i : Nat) (o : List Int) (j : Nat) : List Int := o.set j (max (o.getD j 0) (o.getD i 0 + 1))
def levS (t : List (List Bool)) (o : List Int) (i : Nat) : List Int := (memB (rowT t i)).foldl (levJ i) o
theorem levJ_len (i : Nat) (l : List Nat) : ∀ o : List Int, (l.foldl (levJ i) o).length = o.length := by
  induction l with
  | nil => intro o; rfl
  | cons a l ih => intro o; rw [List.foldl_cons, ih]; simp [levJ]
theorem levJ_get (i : Nat) : ∀ (l : List Nat) (o : List Int), l.Nodup → (∀ j ∈ l, j < o.length ∧ j ≠ i) → ∀ k, (l.foldl (levJ i) o).getD k 0 = if k ∈ l then max (o.getD k 0) (o.getD i 0 + 1) else o.getD k 0
  | [], o, _, _, k => by simp
  | a :: l, o, hn, hl, k => by
    have ha := hl a (List.mem_cons_self ..)
    have hn2 := List.nodup_cons.1 hn
    rw [List.foldl_cons, levJ_get i l _ hn2.2 (fun j hj => by have := hl j (List.mem_cons_of_mem _ hj); simpa [levJ] using this) k]
    have hi : (levJ i o a).getD i 0 = o.getD i 0 := Go.AM.getD_set_ne ha.2 ..
    rw [hi]
    by_cases e : a = k
    · subst e
      rw [if_neg hn2.1, if_pos (List.mem_cons_self ..)]
      exact Go.AM.getD_set_eq ha.1 _ _
    · have : (levJ i o a).getD k 0 = o.getD k 0 := Go.AM.getD_set_ne e ..
      rw [this]
      have e2 : (k ∈ a :: l) = (k ∈ l) := by
        apply propext; rw [List.mem_cons]; exact ⟨fun h => h.resolve_left (fun h => e h.symm), .inr⟩
      simp only [e2]
theorem memB_nodup (b : List Bool) : (memB b).Nodup := List.Pairwise.sublist List.filter_sublist List.nodup_range
theorem levS_len (t : List (List Bool)) (o : List Int) (i : Nat) : (levS t o i).length = o.length := levJ_len i _ o
theorem levS_get {n : Nat} {t : List (List Bool)} (hs : Sq n t) (hp : IsPo n t) {o : List Int} (ho : o.length = n) {i : Nat} (hi : i < n) {k : Nat} (hk : k < n) : (levS t o i).getD k 0 = if atT t i k = true then max (o.getD k 0) (o.getD i 0 + 1) else o.getD k 0 := by
  unfold levS
  rw [levJ_get i _ _ (memB_nodup _) (fun j hj => by
    have := memB_mem.1 hj
    rw [hs.rowLen hi] at this
    refine ⟨by omega, fun e => ?_⟩
    subst e
    have h2 := hp.irr _ hi
    unfold atT at h2
    rw [h2] at this
    exact absurd this.2 (by simp)) k]
  have e : (k ∈ memB (rowT t i)) = (atT t i k = true) := by
    apply propext; rw [memB_mem, hs.rowLen hi]; exact ⟨fun h => h.2, fun h => ⟨hk, h⟩⟩
  simp only [e]
structure LevI (n : Nat) (t : List (List Bool)) (pre : List Nat) (o : List Int) : Prop where
  len : o.length = n
  pos : ∀ j, j < n → 0 ≤ o.getD j 0
  up : ∀ i j, i ∈ pre → j < n → atT t i j = true → o.getD i 0 + 1 ≤ o.getD j 0
  att : ∀ j, j < n → o.getD j 0 = 0 ∨ ∃ i, i ∈ pre ∧ atT t i j = true ∧ o.getD j 0 = o.getD i 0 + 1
  bnd : ∀ j, j < n → o.getD j 0 ≤ pre.length
theorem LevI.nil (n : Nat) (t : List (List Bool)) : LevI n t [] (List.replicate n 0) := by
  have e : ∀ j, (List.replicate n (0 : Int)).getD j 0 = 0 := fun j => by rw [List.getD_eq_getElem?_getD, List.getElem?_replicate]; split <;> rfl
  exact ⟨by simp, fun j _ => by rw [e]; exact Int.le_refl _, (fun i j h => absurd h List.not_mem_nil), fun j _ => Or.inl (e j), fun j _ => by rw [e]; simp⟩
theorem nodup_ix {l : List Nat} (h : l.Nodup) {p q : Nat} (hp : p < l.length) (hq : q < l.length) (e : l[p] = l[q]) : p = q := (List.getElem_inj h).1 e
/-- What stands before: the elements of a list that is closed downwards. -/
theorem LevI.snoc {n : Nat} {t : List (List Bool)} (hs : Sq n t) (hp : IsPo n t) {pre : List Nat} {o : List Int} (h : LevI n t pre o) {i : Nat} (hi : i < n) (hin : i ∉ pre) (hpr : ∀ k ∈ pre, k < n) (hcl : ∀ k, k ∈ pre → atT t i k = false) : LevI n t (pre ++ [i]) (levS t o i) := by
  have hg := fun k hk => levS_get (k := k) hs hp h.len hi hk
  have hgi : (levS t o i).getD i 0 = o.getD i 0 := by rw [hg i hi, hp.irr i hi]; simp
  have hgp : ∀ k, k ∈ pre → (levS t o i).getD k 0 = o.getD k 0 := fun k hk => by rw [hg k (hpr k hk), hcl k hk]; simp
  have hge : ∀ k, k < n → o.getD k 0 ≤ (levS t o i).getD k 0 := fun k hk => by rw [hg k hk]; split <;> omega
  refine ⟨by rw [levS_len, h.len], fun j hj => Int.le_trans (h.pos j hj) (hge j hj), fun k j hk hj ha => ?_, fun j hj => ?_, fun j hj => ?_⟩
  · rcases List.mem_append.1 hk with hk | hk
    · rw [hgp k hk]
      exact Int.le_trans (h.up k j hk hj ha) (hge j hj)
    · obtain rfl := List.mem_singleton.1 hk
      rw [hgi, hg j hj, if_pos ha]
      omega
  · rw [hg j hj]
    have hold : o.getD j 0 = 0 ∨ ∃ k, k ∈ pre ++ [i] ∧ atT t k j = true ∧ o.getD j 0 = (levS t o i).getD k 0 + 1 := by
      rcases h.att j hj with h0 | ⟨k, hk, ha, he⟩
      · exact .inl h0
      · exact .inr ⟨k, List.mem_append_left _ hk, ha, by rw [hgp k hk]; exact he⟩
    split
    · rename_i ha
      by_cases hm : o.getD i 0 + 1 ≤ o.getD j 0
      · rw [Int.max_eq_left hm]; exact hold
      · rw [Int.max_eq_right (by omega)]
        exact .inr ⟨i, List.mem_append_right _ (List.mem_singleton.2 rfl), ha, by rw [hgi]⟩
    · exact hold
  · rw [hg j hj, List.length_append]
    have h1 := h.bnd j hj
    have h2 := h.bnd i hi
    simp only [List.length_singleton, Int.natCast_add, Int.natCast_one]
    split <;> omega
theorem LevI.all {n : Nat} {t : List (List Bool)} (hs : Sq n t) (hp : IsPo n t) {l : List Nat} (ho : OrdI n t l) : ∀ k, k ≤ l.length → LevI n t (l.take k) ((l.take k).foldl (levS t) (List.replicate n 0))
  | 0, _ => by simpa using LevI.nil n t
  | k + 1, hk => by
    have ih := LevI.all hs hp ho k (by omega)
    have e : l.take (k + 1) = l.take k ++ [l[k]] := by rw [List.take_succ_eq_append_getElem (by omega)]
    rw [e, List.foldl_append]
    have hm : l[k] ∈ l := List.getElem_mem ..
    have hin : ∀ x ∈ l, x < n := ho.rng
    refine LevI.snoc hs hp ih (hin _ hm) ?_ (fun x hx => hin x (List.mem_of_mem_take hx)) fun x hx => ?_
    · intro hx
      obtain ⟨q, hq, hqe⟩ := List.mem_iff_getElem.1 hx
      have hql : q < k := by simp at hq; omega
      rw [List.getElem_take] at hqe
      exact absurd (nodup_ix ho.nd (by omega) (by omega) hqe) (by omega)
    · cases ea : atT t l[k] x
      · rfl
      · exfalso
        obtain ⟨q, hq, hqe⟩ := List.mem_iff_getElem.1 hx
        have hql : q < k := by simp at hq; omega
        rw [List.getElem_take] at hqe
        obtain ⟨p, hp1, hp2⟩ := ho.top q x l[k] (by rw [List.getElem?_eq_getElem (by omega), hqe]) (hin _ hm) ea
        rw [List.getElem?_eq_getElem (by omega)] at hp2
        exact absurd (nodup_ix ho.nd (by omega) (by omega) (Option.some.inj hp2)) (by omega)
/-! ### The reference: rounds. -/
def relJ (t : List (List Bool)) (i j : Nat) (o : List Int) : List Int := if atT t i j = true ∧ o.getD j 0 ≤ o.getD i 0 then o.set j (o.getD i 0 + 1) else o
structure RndI (n : Nat) (t : List (List Bool)) (L : List Int) (r : Nat) (vis : Nat → Nat → Prop) (c : Bool) (o : List Int) : Prop where
  len : o.length = n
  pos : ∀ j, j < n → 0 ≤ o.getD j 0
  le : ∀ j, j < n → o.getD j 0 ≤ L.getD j 0
  low : ∀ j, j < n → min (L.getD j 0) r ≤ o.getD j 0
  nxt : ∀ i j, i < n → j < n → vis i j → atT t i j = true → min (L.getD i 0) r + 1 ≤ o.getD j 0
  same : c = false → ∀ i j, i < n → j < n → vis i j → atT t i j = true → o.getD i 0 < o.getD j 0
theorem RndI.start {n : Nat} {t : List (List Bool)} {L : List Int} (hL : IsLev n t L) : RndI n t L 0 (fun _ _ => False) false (List.replicate n 0) := by
  have e : ∀ j, (List.replicate n (0 : Int)).getD j 0 = 0 := fun j => by rw [List.getD_eq_getElem?_getD, List.getElem?_replicate]; split <;> rfl
  refine ⟨by simp, fun j _ => by rw [e]; exact Int.le_refl _, fun j hj => by rw [e]; exact hL.pos j hj, fun j hj => ?_, fun _ _ _ _ h => h.elim, fun _ _ _ _ _ h => h.elim⟩
  rw [e]; have := hL.pos j hj; omega
theorem RndI.step {n : Nat} {t : List (List Bool)} {L : List Int} (hL : IsLev n t L) (hp : IsPo n t) {r : Nat} {vis vis' : Nat → Nat → Prop} {c : Bool} {o : List Int} (h : RndI n t L r vis c o) {i j : Nat} (hi : i < n) (hj : j < n)
    (hv : ∀ a b, vis' a b → vis a b ∨ (a = i ∧ b = j)) :
    RndI n t L r vis' (c || (atT t i j && decide (o.getD j 0 ≤ o.getD i 0))) (relJ t i j o) := by
  unfold relJ
  by_cases hc : atT t i j = true ∧ o.getD j 0 ≤ o.getD i 0
  · have hne : i ≠ j := fun e => by subst e; have := hp.irr _ hi; rw [this] at hc; exact absurd hc.1 (by simp)
    rw [if_pos hc]
    have hg : ∀ k, (o.set j (o.getD i 0 + 1)).getD k 0 = if k = j then o.getD i 0 + 1 else o.getD k 0 := fun k => by
      by_cases e : k = j
      · subst e; rw [if_pos rfl]; exact Go.AM.getD_set_eq (by rw [h.len]; exact hj) _ _
      · rw [if_neg e]; exact Go.AM.getD_set_ne (fun q => e q.symm) ..
    have hge : ∀ k, k < n → o.getD k 0 ≤ (o.set j (o.getD i 0 + 1)).getD k 0 := fun k _ => by rw [hg]; split; (rename_i e; subst e; omega); exact Int.le_refl _
    refine ⟨by simp [h.len], fun k hk => Int.le_trans (h.pos k hk) (hge k hk), fun k hk => ?_, fun k hk => Int.le_trans (h.low k hk) (hge k hk), fun a b ha hb hab hat => ?_, fun hf => ?_⟩
    · rw [hg]
      split
      · rename_i e; subst e
        have := h.le i hi
        have := hL.up i _ hi hj hc.1
        omega
      · exact h.le k hk
    · rcases hv a b hab with h1 | ⟨rfl, rfl⟩
      · exact Int.le_trans (h.nxt a b ha hb h1 hat) (hge b hb)
      · rw [hg, if_pos rfl]
        have := h.low a ha
        omega
    · exfalso; rw [hc.1, decide_eq_true hc.2] at hf; simp at hf
  · rw [if_neg hc]
    refine ⟨h.len, h.pos, h.le, h.low, fun a b ha hb hab hat => ?_, fun hf a b ha hb hab hat => ?_⟩
    · rcases hv a b hab with h1 | ⟨rfl, rfl⟩
      · exact h.nxt a b ha hb h1 hat
      · have := h.low a ha
        have : ¬ o.getD b 0 ≤ o.getD a 0 := fun q => hc ⟨hat, q⟩
        omega
    · rcases hv a b hab with h1 | ⟨rfl, rfl⟩
      · exact h.same (by rw [Bool.or_eq_false_iff] at hf; exact hf.1) a b ha hb h1 hat
      · have : ¬ o.getD b 0 ≤ o.getD a 0 := fun q => hc ⟨hat, q⟩
        omega
theorem RndI.stop {n : Nat} {t : List (List Bool)} {L : List Int} (hL : IsLev n t L) {r : Nat} {vis : Nat → Nat → Prop} {o : List Int} (h : RndI n t L r vis false o) (hv : ∀ i j, i < n → j < n → vis i j) : o = L := by
  refine getD_ext (by rw [h.len, hL.len]) fun k hk => ?_
  rw [h.len] at hk
  have h1 := lev_le hL h.pos (fun i j hi hj ha => by have := h.same rfl i j hi hj (hv i j hi hj) ha; omega) (L.getD k 0).toNat k hk (by have := hL.pos k hk; omega)
  have h2 := h.le k hk
  omega
/-! ### Tables filled pair by pair. -/
end Go.AM

/- Rows made of lists of members. -/
namespace Go.AM
def rowL (n : Nat) (l : List Int) : List Bool := setR n fun i => decide ((i : Int) ∈ l)
theorem rowL_len (n : Nat) (l : List Int) : (rowL n l).length = n := setR_len _ _
theorem rowL_get {n : Nat} {l : List Int} {i : Nat} (h : i < n) : (rowL n l).getD i false = decide ((i : Int) ∈ l) := setR_get h
theorem fold_setBit {n : Nat} : ∀ (l : List Int) (b : List Bool), b.length = n → (∀ x ∈ l, 0 ≤ x ∧ x < n) → l.foldl setBit (setW b n) = setW (l.foldl (fun b x => b.set x.toNat true) b) n
  | [], _, _, _ => rfl
  | x :: l, b, hb, hl => by
    have hx := hl x (List.mem_cons_self ..)
    have h1 := setBit_setW b (i := x.toNat) (by omega)
    rw [hb, Int.toNat_of_nonneg hx.1] at h1
    rw [List.foldl_cons, List.foldl_cons, h1]
    exact fold_setBit l _ (by simp [hb]) fun y hy => hl y (List.mem_cons_of_mem _ hy)
theorem fold_set_get {n : Nat} : ∀ (l : List Int) (b : List Bool), b.length = n → (∀ x ∈ l, 0 ≤ x ∧ x < n) → (l.foldl (fun b x => b.set x.toNat true) b).length = n ∧ ∀ i, i < n → (l.foldl (fun b x => b.set x.toNat true) b).getD i false = (b.getD i false || decide ((i : Int) ∈ l))
  | [], b, hb, _ => ⟨hb, fun i _ => by simp⟩
  | x :: l, b, hb, hl => by
    have hx := hl x (List.mem_cons_self ..)
    obtain ⟨h1, h2⟩ := fold_set_get l (b.set x.toNat true) (by simp [hb]) fun y hy => hl y (List.mem_cons_of_mem _ hy)
    refine ⟨h1, fun i hi => ?_⟩
    rw [List.foldl_cons, h2 i hi, getD_setB]
    by_cases e : x = (i : Int)
    · rw [if_pos ⟨by omega, by omega⟩, decide_eq_true (show (i : Int) ∈ x :: l by rw [e]; exact List.mem_cons_self ..)]; simp
    · rw [if_neg (by omega)]
      congr 1
      refine decide_eq_decide.2 ?_
      rw [List.mem_cons]
      exact ⟨.inr, fun h => h.resolve_left fun h => e h.symm⟩
theorem ofW_row {n : Nat} {l : List Int} (hl : ∀ x ∈ l, 0 ≤ x ∧ x < n) : ofW n l = setW (rowL n l) n := by
  have hz := setW_zero n
  have h1 := fold_setBit l (List.replicate n false) (by simp) hl
  rw [hz] at h1
  have h2 := fold_set_get l (List.replicate n false) (by simp) hl
  unfold ofW
  rw [h1]
  congr 1
  refine getD_extB (by rw [h2.1, rowL_len]) fun i hi => ?_
  rw [h2.1] at hi
  rw [h2.2 i hi, rowL_get hi]
  have e : (List.replicate n false).getD i false = false := by rw [List.getD_eq_getElem?_getD, List.getElem?_replicate]; split <;> rfl
  rw [e, Bool.false_or]
end Go.AM

namespace Go.Proofs.M
open Go.AM Go
set_option maxRecDepth 100000
set_option maxHeartbeats 2000000
theorem contains_r (l : List Int) (x : Int) (hl : l.length ≤ 9223372036854775807) : Reads Try.prog 34 false [.rsl 1 (ints l), .int .i64 x] (.bool (decide (x ∈ l))) := by
  have hi := index_r l x hl
  have hg := ixf_ge (fun y => decide (x = y)) l
  refine Reads.body (rs := [.tmp 4]) Try.func34 rfl Try.ntmps34 rfl (by simp) ?_
  generalize hQr : retQ _ _ _ = Qr
  refine AW.seq fun K1 hK1 => ?_
  -- region 0
  refine AW.regionK 0 (fun _ => none) [0, 1] [] ?_
  simp only [go_sem, reduceIte, reduceCtorEq, Nat.reduceAdd, Nat.reduceMul, Nat.reduceEqDiff, Nat.reduceLT, Nat.reduceLeDiff, Nat.reduceSub, Nat.reducePow, Nat.reduceBEq, Int.reduceToNat, List.reduceReplicate]
  repeat with_reducible refine cj ?_ ?_
  all_goals try first | omega
  refine hK1 _ _ _ ?_; clear hK1
  refine AW.seq fun K2 hK2 => ?_
  -- region 1
  refine AW.regionK 0 (fun ii => if ii = 2 then some (.reads false (.int .i64 (ixf (fun y => decide (x = y)) l))) else none) [4] [] ?_
  simp only [go_sem, reduceIte, reduceCtorEq, Nat.reduceAdd, Nat.reduceMul, Nat.reduceEqDiff, Nat.reduceLT, Nat.reduceLeDiff, Nat.reduceSub, Nat.reducePow, Nat.reduceBEq, Int.reduceToNat, List.reduceReplicate]
  repeat with_reducible refine cj ?_ ?_
  all_goals try first | (exact hi) | omega | exact ent (by kernel_rfl)
  refine hK2 _ _ _ ?_; clear hK2
  refine AW.ret ?_
  rw [← hQr]
  simp only [go_sem, reduceIte, reduceCtorEq, Nat.reduceAdd, Nat.reduceMul, Nat.reduceEqDiff, Nat.reduceLT, Nat.reduceLeDiff, Nat.reduceSub, Nat.reducePow, Nat.reduceBEq, Int.reduceToNat, List.reduceReplicate]
  exact Wk.of_eq (by rw [hg]; congr 1; rw [List.any_eq, decide_eq_decide]; simp)
theorem of_b {n : Nat} (l : List Int) (h1 : n ≤ 512) (hl : l.length ≤ 9223372036854775807) (hr : ∀ i ∈ l, 0 ≤ i ∧ i < (n : Int)) :
    Reads Try.prog 35 true [.int .i64 n, .rsl 1 (ints l)] (.tup [.agg [.int .i64 n, .rsl 1 (words (setW (rowL n l) n))], .int .i64 0]) := by
  have := of_r (n : Int) l (by omega) (by omega) hl hr
  rw [ofW_row hr] at this
  exact this
def restI (l : List Int) (j : Nat) : List Int := ((List.range j).filter fun i => !decide (((i : Nat) : Int) ∈ l)).map fun (i : Nat) => (i : Int)
theorem restI_succ (l : List Int) (j : Nat) : restI l (j + 1) = if decide ((j : Int) ∈ l) = true then restI l j else restI l j ++ [(j : Int)] := by
  unfold restI
  rw [List.range_succ, List.filter_append, List.map_append]
  by_cases h : (j : Int) ∈ l
  · rw [if_pos (by simpa using h)]; simp [h]
  · rw [if_neg (by simpa using h)]; simp [h]
theorem restI_le (l : List Int) (j : Nat) : (restI l j).length ≤ j := by
  unfold restI
  rw [List.length_map]
  have := List.length_filter_le (fun i => !decide (((i : Nat) : Int) ∈ l)) (List.range j)
  simpa using this
theorem restI_mem (l : List Int) (j : Nat) (x : Int) : x ∈ restI l j ↔ ∃ i : Nat, x = i ∧ i < j ∧ (i : Int) ∉ l := by
  simp only [restI, List.mem_map, List.mem_filter, List.mem_range, Bool.not_eq_true', decide_eq_false_iff_not]
  constructor
  · rintro ⟨i, ⟨h1, h2⟩, rfl⟩; exact ⟨i, rfl, h1, h2⟩
  · rintro ⟨i, rfl, h1, h2⟩; exact ⟨i, ⟨h1, h2⟩, rfl⟩
/-- The nodes that Cover and Hall see. -/
def rchM (n m : Nat) (E : List (Int × Int)) : RSt := reachP (nbOf n E) (maxLR (nbOf n E) n m n).1 (maxLR (nbOf n E) n m n).2 n m
def cvL (n m : Nat) (E : List (Int × Int)) : List Bool := rowL n (restI (rchM n m E).l n)
def cvR (n m : Nat) (E : List (Int × Int)) : List Bool := rowL m (rchM n m E).q
structure Gd (n m : Nat) (E : List (Int × Int)) : Prop where
  hn : n ≤ 512
  hm : m ≤ 512
  hl : E.length ≤ 2000
  hE : ∀ e ∈ E, edgeIn n m e = true
  hnd : E.Nodup
theorem gd_of {n m : Int} {E : List (Int × Int)} (hv : validM n m E = true) : ∃ a b : Nat, n = a ∧ m = b ∧ Gd a b E := by
  simp only [validM, sizesM, Bool.and_eq_true, decide_eq_true_eq, List.all_eq_true] at hv
  obtain ⟨⟨⟨⟨⟨q1, q2⟩, q3⟩, q4⟩, q5⟩, q6, q7⟩ := hv
  obtain ⟨a, rfl⟩ : ∃ a : Nat, n = a := ⟨n.toNat, by omega⟩
  obtain ⟨b, rfl⟩ : ∃ b : Nat, m = b := ⟨m.toNat, by omega⟩
  exact ⟨a, b, rfl, rfl, by omega, by omega, q5, q6, q7⟩
theorem Gd.valid {n m : Nat} {E : List (Int × Int)} (h : Gd n m E) : validM n m E = true := by
  have h1 := h.hn
  have h2 := h.hm
  simp only [validM, sizesM, Bool.and_eq_true, decide_eq_true_eq, List.all_eq_true]
  exact ⟨⟨⟨⟨⟨by omega, by omega⟩, by omega⟩, by omega⟩, h.hl⟩, h.hE, h.hnd⟩
theorem Gd.rng {n m : Nat} {E : List (Int × Int)} (h : Gd n m E) : ∀ row ∈ nbOf n E, ∀ r ∈ row, 0 ≤ r ∧ r < (m : Int) := nbOf_rng fun e he => by have := edgeIn_iff.1 (h.hE e he); omega
theorem Gd.row {n m : Nat} {E : List (Int × Int)} (h : Gd n m E) : ∀ row ∈ nbOf n E, row.length ≤ 100000 := fun row hr => by have := nbOf_row n E row hr; have := h.hl; omega
theorem Gd.max {n m : Nat} {E : List (Int × Int)} (h : Gd n m E) : Mch n m (nbOf n E) (maxLR (nbOf n E) n m n).1 (maxLR (nbOf n E) n m n).2 ∧ NoAug (nbOf n E) n (maxLR (nbOf n E) n m n).1 (maxLR (nbOf n E) n m n).2 := maxLR_max (nbOf_len n E) h.rng
theorem Gd.rch {n m : Nat} {E : List (Int × Int)} (h : Gd n m E) : RIv n m (nbOf n E) (maxLR (nbOf n E) n m n).1 (maxLR (nbOf n E) n m n).2 (rchM n m E) := (reachP_spec (nbOf_len n E) h.rng h.max.1).1
theorem Gd.rngL {n m : Nat} {E : List (Int × Int)} (h : Gd n m E) : ∀ x ∈ (rchM n m E).l, 0 ≤ x ∧ x < (n : Int) := fun x hx => by
  obtain ⟨i, rfl, h1, _⟩ := h.rch.hl x hx; omega
theorem Gd.rngQ {n m : Nat} {E : List (Int × Int)} (h : Gd n m E) : ∀ x ∈ (rchM n m E).q, 0 ≤ x ∧ x < (m : Int) := fun x hx => by
  obtain ⟨i, rfl, h1, _⟩ := h.rch.hq x hx; omega
theorem cover_good {n m : Nat} {E : List (Int × Int)} (h : Gd n m E) : Reads Try.prog 12 false [.int .i64 n, .int .i64 m, .rsl 2 (E.map pairV)] (.tup [.agg [.int .i64 n, .rsl 1 (words (setW (cvL n m E) n))], .agg [.int .i64 m, .rsl 1 (words (setW (cvR n m E) m))], .int .i64 0]) := by
  have hn := h.hn
  have hm := h.hm
  have hvr := mvalid_r n m E (by have := h.hl; omega)
  rw [h.valid] at hvr
  have hmx := maximum_u hn hm h.hE h.hl
  have hre := reached_r hn hm (nbOf_len n E) h.rng h.row h.max.1
  have hrl := h.rngL
  have hrq := h.rngQ
  have hlen := h.rch.hlen
  have hlq := h.rch.hlq
  have hLn := h.max.1.hL
  have hRm := h.max.1.hR
  unfold cvL cvR
  rw [show reachP (nbOf n E) (maxLR (nbOf n E) n m n).1 (maxLR (nbOf n E) n m n).2 n m = rchM n m E from rfl] at hre
  generalize rchM n m E = T at *
  generalize maxLR (nbOf n E) n m n = x at *
  obtain ⟨L, R⟩ := x
  unfold graphS at hmx
  simp only at hmx hre hLn hRm ⊢
  generalize nbR (nbOf n E) = X at *
  have htL : (ints L).take n = ints L := List.take_of_length_le (by rw [ints_len]; omega)
  have htR : (ints R).take m = ints R := List.take_of_length_le (by rw [ints_len]; omega)
  have hoq := of_b T.q hm (by omega) hrq
  refine Reads.body (rs := [.cell 6 30, .cell 7 30, .tmp 8]) Try.func12 rfl Try.ntmps12 rfl (by simp) ?_
  generalize hQr : retQ _ _ _ = Qr
  refine AW.seq fun K1 hK1 => ?_
  -- region 0
  refine AW.regionK 0 (fun _ => none) [0, 1, 2, 6, 7] [6, 7] ?_
  simp only [go_sem, reduceIte, reduceCtorEq, Nat.reduceAdd, Nat.reduceMul, Nat.reduceEqDiff, Nat.reduceLT, Nat.reduceLeDiff, Nat.reduceSub, Nat.reducePow, Nat.reduceBEq, Int.reduceToNat, List.reduceReplicate, ints_len]
  repeat with_reducible refine cj ?_ ?_
  all_goals try first | omega
  refine hK1 _ _ _ ?_; clear hK1
  refine AW.seq fun K2 hK2 => ?_
  refine AW.seq fun K3 hK3 => ?_
  -- region 1
  refine AW.regionK 0 (fun ii => if ii = 3 then some (.reads false (.bool true)) else none) [0, 1, 2, 6, 7, 17] [6, 7] ?_
  simp only [go_sem, reduceIte, reduceCtorEq, Nat.reduceAdd, Nat.reduceMul, Nat.reduceEqDiff, Nat.reduceLT, Nat.reduceLeDiff, Nat.reduceSub, Nat.reducePow, Nat.reduceBEq, Int.reduceToNat, List.reduceReplicate, ints_len]
  repeat with_reducible refine cj ?_ ?_
  all_goals try first | (exact hvr) | omega | exact ent (by kernel_rfl)
  refine hK3 _ _ _ ?_; clear hK3
  -- cond 1
  refine AW.cond rfl (by simp only [go_sem, reduceIte, reduceCtorEq, Nat.reduceAdd, Nat.reduceMul, Nat.reduceEqDiff, Nat.reduceLT, Nat.reduceLeDiff, Nat.reduceSub, Nat.reducePow, Nat.reduceBEq, Int.reduceToNat, List.reduceReplicate]) ?_ ?_
  · intro hb
    try simp only [hB, decide_eq_true_eq, decide_eq_false_iff_not] at hb
    exact absurd hb (by simp)
  · intro hb
    try simp only [hB, decide_eq_true_eq, decide_eq_false_iff_not] at hb
    refine AW.skip ?_
    refine hK2 _ _ _ ?_; clear hK2
    refine AW.seq fun K4 hK4 => ?_
    -- region 3
    refine AW.regionK 0 (fun ii => if ii = 3 then some (.upd [] (fun k => [(0, some ⟨k, k, 3, [[.rsl 1 X, .sl ⟨1, k, none⟩ 0 n none, .sl ⟨2, k, none⟩ 0 m none]]⟩), (1, some ⟨k, k, 1, ints L⟩), (2, some ⟨k, k, 1, ints R⟩)]) (fun k => .ptr ⟨0, k, none⟩ 0 0)) else if ii = 4 then some (.upd [24, 1024, 2024] (fun _ => []) (fun _ => .tup [.rsl 1 (ints T.l), .rsl 1 (ints T.q)])) else none) [0, 1, 6, 7, 9, 10] [6, 7] ?_
    simp only [go_sem, reduceIte, reduceCtorEq, Nat.reduceAdd, Nat.reduceMul, Nat.reduceEqDiff, Nat.reduceLT, Nat.reduceLeDiff, Nat.reduceSub, Nat.reducePow, Nat.reduceBEq, Int.reduceToNat, List.reduceReplicate, ints_len]
    repeat with_reducible refine cj ?_ ?_
    all_goals try first | (first | exact hmx | exact hre.upd (by simp only [List.map_cons, List.map_nil, go_sem, reduceIte, Nat.reduceEqDiff, htL, htR, vwc_ints])) | omega | exact ent (by kernel_rfl)
    refine hK4 _ _ _ ?_; clear hK4
    refine AW.seq fun K5 hK5 => ?_
    -- region 4
    refine AW.regionK 0 (fun _ => none) [0, 1, 6, 7, 9, 10, 11] [6, 7] ?_
    simp only [go_sem, reduceIte, reduceCtorEq, Nat.reduceAdd, Nat.reduceMul, Nat.reduceEqDiff, Nat.reduceLT, Nat.reduceLeDiff, Nat.reduceSub, Nat.reducePow, Nat.reduceBEq, Int.reduceToNat, List.reduceReplicate, ints_len]
    repeat with_reducible refine cj ?_ ?_
    all_goals try first | omega
    refine hK5 _ _ _ ?_; clear hK5
    refine AW.seq fun K6 hK6 => ?_
    refine AW.seq fun K7 hK7 => ?_
    -- region 5
    refine AW.regionK 0 (fun _ => none) [0, 1, 6, 7, 9, 10, 11, 28, 29] [6, 7] ?_
    simp only [go_sem, reduceIte, reduceCtorEq, Nat.reduceAdd, Nat.reduceMul, Nat.reduceEqDiff, Nat.reduceLT, Nat.reduceLeDiff, Nat.reduceSub, Nat.reducePow, Nat.reduceBEq, Int.reduceToNat, List.reduceReplicate, ints_len]
    repeat with_reducible refine cj ?_ ?_
    all_goals try first | omega
    refine hK7 _ _ _ ?_; clear hK7
    refine AW.block ?_
    refine AW.nilOwn 11 200 1 (by simp only [go_sem, reduceIte, Nat.reduceEqDiff]) ?_
    refine AW.keep [0, 1, 6, 7, 9, 10, 11, 28, 29] [6, 7, 200] ?_
    simp only [go_sem, reduceIte, Nat.reduceEqDiff]
    -- loop 1
    refine AW.loopE (fun mm ee ss kk => ∃ (j g6 v6 g7 v7 g v : Nat), n - j = mm ∧ ee = [(0, .int .i64 n), (1, .int .i64 m), (6, .ptr ⟨6, g6, none⟩ 0 0), (7, .ptr ⟨7, g7, none⟩ 0 0), (9, .rsl 1 (ints T.l)), (10, .rsl 1 (ints T.q)), (11, .sl ⟨200, g, none⟩ 0 (restI T.l j).length none), (28, .int .i64 n), (29, .int .i64 (j : Nat))] ∧ ss = [(6, some ⟨g6, v6, 2, [[.int .i64 0, .nilsl]]⟩), (7, some ⟨g7, v7, 2, [[.int .i64 0, .nilsl]]⟩), (200, some ⟨g, v, 1, ints (restI T.l j)⟩)] ∧ (j ≤ n)) ?_ ?_
    · refine ⟨_, 0, ?_, ?_, ?_, ?_, ?_, ?_, rfl, ?henv, ?hstore, ?hst⟩
      case henv =>
        repeat' (first | rfl | refine env_cons ?_ ?_ | refine st_cons ?_ ?_ ?_ ?_ | refine int_eq ?_ | refine bool_eq ?_ | refine rsl_eq ?_ | refine osl_eq ?_ | refine sl_eq ?_ ?_ ?_ | refine ptr_eq ?_ ?_ ?_ | refine agg_eq ?_ | refine es_cons ?_ ?_ | refine row_cons ?_ ?_)
        all_goals (first | (simp; done) | omega | (simp; omega))
      case hstore =>
        repeat' (first | rfl | refine env_cons ?_ ?_ | refine st_cons ?_ ?_ ?_ ?_ | refine int_eq ?_ | refine bool_eq ?_ | refine rsl_eq ?_ | refine osl_eq ?_ | refine sl_eq ?_ ?_ ?_ | refine ptr_eq ?_ ?_ ?_ | refine agg_eq ?_ | refine es_cons ?_ ?_ | refine row_cons ?_ ?_)
        all_goals (first | (simp; done) | omega | (simp; omega))
      case hst =>
        first | trivial | omega | (simp; done) | (simp; omega)
    rintro mm ee ss kk ⟨j, g6, v6, g7, v7, g, v, rfl, rfl, rfl, hI⟩
    generalize hQl1 : thenQ _ _ = Ql1
    refine AW.seq fun K8 hK8 => ?_
    -- region 6
    refine AW.regionK 0 (fun _ => none) [0, 1, 6, 7, 9, 10, 11, 28, 29, 30] [6, 7, 200] ?_
    simp only [go_sem, reduceIte, reduceCtorEq, Nat.reduceAdd, Nat.reduceMul, Nat.reduceEqDiff, Nat.reduceLT, Nat.reduceLeDiff, Nat.reduceSub, Nat.reducePow, Nat.reduceBEq, Int.reduceToNat, List.reduceReplicate, ints_len]
    repeat with_reducible refine cj ?_ ?_
    all_goals try first | omega
    refine hK8 _ _ _ ?_; clear hK8
    refine AW.seq fun K9 hK9 => ?_
    -- cond 2
    refine AW.cond rfl (by simp only [go_sem, reduceIte, reduceCtorEq, Nat.reduceAdd, Nat.reduceMul, Nat.reduceEqDiff, Nat.reduceLT, Nat.reduceLeDiff, Nat.reduceSub, Nat.reducePow, Nat.reduceBEq, Int.reduceToNat, List.reduceReplicate]) ?_ ?_
    · intro hb
      try simp only [hB, decide_eq_true_eq, decide_eq_false_iff_not] at hb
      have hco := contains_r T.l (j : Int) (by omega)
      have hsu := restI_succ T.l j
      have hle := restI_le T.l j
      have htk := ints_all (restI T.l j)
      have hsn := ints_snoc (restI T.l j) (j : Int)
      generalize hP : restI T.l j = P at *
      refine AW.skip ?_
      refine hK9 _ _ _ ?_; clear hK9
      refine AW.seq fun K10 hK10 => ?_
      refine AW.block ?_
      refine AW.seq fun K11 hK11 => ?_
      -- region 7
      refine AW.regionK 0 (fun _ => none) [0, 1, 6, 7, 9, 10, 11, 12, 28, 29] [6, 7, 200] ?_
      simp only [go_sem, reduceIte, reduceCtorEq, Nat.reduceAdd, Nat.reduceMul, Nat.reduceEqDiff, Nat.reduceLT, Nat.reduceLeDiff, Nat.reduceSub, Nat.reducePow, Nat.reduceBEq, Int.reduceToNat, List.reduceReplicate, ints_len]
      repeat with_reducible refine cj ?_ ?_
      all_goals try first | omega
      refine hK11 _ _ _ ?_; clear hK11
      refine AW.seq fun K12 hK12 => ?_
      -- region 8
      refine AW.regionK 0 (fun ii => if ii = 2 then some (.reads false (.bool (decide ((j : Int) ∈ T.l)))) else none) [0, 1, 6, 7, 9, 10, 11, 12, 28, 29, 35] [6, 7, 200] ?_
      simp only [go_sem, reduceIte, reduceCtorEq, Nat.reduceAdd, Nat.reduceMul, Nat.reduceEqDiff, Nat.reduceLT, Nat.reduceLeDiff, Nat.reduceSub, Nat.reducePow, Nat.reduceBEq, Int.reduceToNat, List.reduceReplicate, ints_len]
      repeat with_reducible refine cj ?_ ?_
      all_goals try first | (exact hco) | omega | exact ent (by kernel_rfl)
      refine hK12 _ _ _ ?_; clear hK12
      -- cond 3
      refine AW.cond rfl (by simp only [go_sem, reduceIte, reduceCtorEq, Nat.reduceAdd, Nat.reduceMul, Nat.reduceEqDiff, Nat.reduceLT, Nat.reduceLeDiff, Nat.reduceSub, Nat.reducePow, Nat.reduceBEq, Int.reduceToNat, List.reduceReplicate]) ?_ ?_
      · intro hb
        try simp only [hB, decide_eq_true_eq, decide_eq_false_iff_not] at hb
        rw [if_neg (by simpa using hb)] at hsu
        -- region 9
        refine AW.regionK 0 (fun _ => none) [0, 1, 6, 7, 9, 10, 11, 28, 29] [6, 7, 200] ?_
        simp only [go_sem, reduceIte, reduceCtorEq, Nat.reduceAdd, Nat.reduceMul, Nat.reduceEqDiff, Nat.reduceLT, Nat.reduceLeDiff, Nat.reduceSub, Nat.reducePow, Nat.reduceBEq, Int.reduceToNat, List.reduceReplicate, ints_len, htk, hsn]
        repeat with_reducible refine cj ?_ ?_
        all_goals try first | omega | (simp [scP, scalar]; done) | exact scP_words _ | exact scP_ints _ | exact scP_bools _
        refine hK10 _ _ _ ?_; clear hK10
        -- region 10
        refine AW.regionK 0 (fun _ => none) [0, 1, 6, 7, 9, 10, 11, 28, 29] [6, 7, 200] ?_
        simp only [go_sem, reduceIte, reduceCtorEq, Nat.reduceAdd, Nat.reduceMul, Nat.reduceEqDiff, Nat.reduceLT, Nat.reduceLeDiff, Nat.reduceSub, Nat.reducePow, Nat.reduceBEq, Int.reduceToNat, List.reduceReplicate, ints_len]
        repeat with_reducible refine cj ?_ ?_
        all_goals try first | omega
        rw [← hQl1]
        change Exists _
        refine ⟨_, ?hm, j + 1, ?_, ?_, ?_, ?_, ?_, ?_, rfl, ?henv, ?hstore, ?hst⟩
        case henv =>
          repeat' (first | rfl | refine env_cons ?_ ?_ | refine st_cons ?_ ?_ ?_ ?_ | refine int_eq ?_ | refine bool_eq ?_ | refine rsl_eq ?_ | refine osl_eq ?_ | refine sl_eq ?_ ?_ ?_ | refine ptr_eq ?_ ?_ ?_ | refine agg_eq ?_ | refine es_cons ?_ ?_ | refine row_cons ?_ ?_)
          all_goals (rw [hsu]; try simp)
        case hstore =>
          repeat' (first | rfl | refine env_cons ?_ ?_ | refine st_cons ?_ ?_ ?_ ?_ | refine int_eq ?_ | refine bool_eq ?_ | refine rsl_eq ?_ | refine osl_eq ?_ | refine sl_eq ?_ ?_ ?_ | refine ptr_eq ?_ ?_ ?_ | refine agg_eq ?_ | refine es_cons ?_ ?_ | refine row_cons ?_ ?_)
          all_goals (rw [hsu])
        case hst =>
          first | trivial | omega | (simp; done) | (simp; omega)
        case hm => omega
      · intro hb
        try simp only [hB, decide_eq_true_eq, decide_eq_false_iff_not] at hb
        rw [if_pos (by simpa using hb)] at hsu
        refine AW.skip ?_
        refine hK10 _ _ _ ?_; clear hK10
        -- region 10
        refine AW.regionK 0 (fun _ => none) [0, 1, 6, 7, 9, 10, 11, 28, 29] [6, 7, 200] ?_
        simp only [go_sem, reduceIte, reduceCtorEq, Nat.reduceAdd, Nat.reduceMul, Nat.reduceEqDiff, Nat.reduceLT, Nat.reduceLeDiff, Nat.reduceSub, Nat.reducePow, Nat.reduceBEq, Int.reduceToNat, List.reduceReplicate, ints_len]
        repeat with_reducible refine cj ?_ ?_
        all_goals try first | omega
        rw [← hQl1]
        change Exists _
        refine ⟨_, ?hm, j + 1, ?_, ?_, ?_, ?_, ?_, ?_, rfl, ?henv, ?hstore, ?hst⟩
        case henv =>
          repeat' (first | rfl | refine env_cons ?_ ?_ | refine st_cons ?_ ?_ ?_ ?_ | refine int_eq ?_ | refine bool_eq ?_ | refine rsl_eq ?_ | refine osl_eq ?_ | refine sl_eq ?_ ?_ ?_ | refine ptr_eq ?_ ?_ ?_ | refine agg_eq ?_ | refine es_cons ?_ ?_ | refine row_cons ?_ ?_)
          all_goals (rw [hsu]; try simp)
        case hstore =>
          repeat' (first | rfl | refine env_cons ?_ ?_ | refine st_cons ?_ ?_ ?_ ?_ | refine int_eq ?_ | refine bool_eq ?_ | refine rsl_eq ?_ | refine osl_eq ?_ | refine sl_eq ?_ ?_ ?_ | refine ptr_eq ?_ ?_ ?_ | refine agg_eq ?_ | refine es_cons ?_ ?_ | refine row_cons ?_ ?_)
          all_goals (rw [hsu])
        case hst =>
          first | trivial | omega | (simp; done) | (simp; omega)
        case hm => omega
    · intro hb
      try simp only [hB, decide_eq_true_eq, decide_eq_false_iff_not] at hb
      have hj : n = j := by omega
      subst hj
      have htk := ints_all (restI T.l n)
      have hof := of_b (n := n) (restI T.l n) hn (by have := restI_le T.l n; omega) (fun i hi => by obtain ⟨k, rfl, hk, _⟩ := (restI_mem T.l n i).1 hi; omega)
      refine AW.exit ?_
      rw [← hQl1]
      refine hK6 _ _ _ ?_; clear hK6
      refine AW.seq fun K13 hK13 => ?_
      refine AW.seq fun K14 hK14 => ?_
      -- region 11
      refine AW.regionK 0 (fun ii => if ii = 2 then some (.upd [200] (fun _ => []) (fun _ => .tup [.agg [.int .i64 n, .rsl 1 (words (setW (rowL n (restI T.l n)) n))], .int .i64 0])) else none) [1, 6, 7, 8, 10] [6, 7] ?_
      simp only [go_sem, reduceIte, reduceCtorEq, Nat.reduceAdd, Nat.reduceMul, Nat.reduceEqDiff, Nat.reduceLT, Nat.reduceLeDiff, Nat.reduceSub, Nat.reducePow, Nat.reduceBEq, Int.reduceToNat, List.reduceReplicate, ints_len, htk]
      repeat with_reducible refine cj ?_ ?_
      all_goals try first | (exact hof.upd (by simp only [List.map_cons, List.map_nil, go_sem, reduceIte, Nat.reduceEqDiff, htk, vwc_ints])) | omega | exact ent (by kernel_rfl)
      refine hK14 _ _ _ ?_; clear hK14
      refine AW.seq fun K15 hK15 => ?_
      -- region 12
      refine AW.regionK 0 (fun _ => none) [1, 6, 7, 8, 10, 48] [6, 7] ?_
      simp only [go_sem, reduceIte, reduceCtorEq, Nat.reduceAdd, Nat.reduceMul, Nat.reduceEqDiff, Nat.reduceLT, Nat.reduceLeDiff, Nat.reduceSub, Nat.reducePow, Nat.reduceBEq, Int.reduceToNat, List.reduceReplicate, ints_len]
      repeat with_reducible refine cj ?_ ?_
      all_goals try first | omega
      refine hK15 _ _ _ ?_; clear hK15
      -- cond 4
      refine AW.cond rfl (by simp only [go_sem, reduceIte, reduceCtorEq, Nat.reduceAdd, Nat.reduceMul, Nat.reduceEqDiff, Nat.reduceLT, Nat.reduceLeDiff, Nat.reduceSub, Nat.reducePow, Nat.reduceBEq, Int.reduceToNat, List.reduceReplicate]) ?_ ?_
      · intro hb
        try simp only [hB, decide_eq_true_eq, decide_eq_false_iff_not] at hb
        exfalso; simp at hb
      · intro hb
        try simp only [hB, decide_eq_true_eq, decide_eq_false_iff_not] at hb
        refine AW.skip ?_
        refine hK13 _ _ _ ?_; clear hK13
        refine AW.seq fun K16 hK16 => ?_
        refine AW.seq fun K17 hK17 => ?_
        -- region 14
        refine AW.regionK 0 (fun ii => if ii = 2 then some (.reads true (.tup [.agg [.int .i64 m, .rsl 1 (words (setW (rowL m T.q) m))], .int .i64 0])) else none) [6, 7, 8] [6, 7] ?_
        simp only [go_sem, reduceIte, reduceCtorEq, Nat.reduceAdd, Nat.reduceMul, Nat.reduceEqDiff, Nat.reduceLT, Nat.reduceLeDiff, Nat.reduceSub, Nat.reducePow, Nat.reduceBEq, Int.reduceToNat, List.reduceReplicate, ints_len]
        repeat with_reducible refine cj ?_ ?_
        all_goals try first | (exact hoq) | omega | exact ent (by kernel_rfl)
        refine hK17 _ _ _ ?_; clear hK17
        refine AW.seq fun K18 hK18 => ?_
        -- region 15
        refine AW.regionK 0 (fun _ => none) [6, 7, 8, 59] [6, 7] ?_
        simp only [go_sem, reduceIte, reduceCtorEq, Nat.reduceAdd, Nat.reduceMul, Nat.reduceEqDiff, Nat.reduceLT, Nat.reduceLeDiff, Nat.reduceSub, Nat.reducePow, Nat.reduceBEq, Int.reduceToNat, List.reduceReplicate, ints_len]
        repeat with_reducible refine cj ?_ ?_
        all_goals try first | omega
        refine hK18 _ _ _ ?_; clear hK18
        -- cond 5
        refine AW.cond rfl (by simp only [go_sem, reduceIte, reduceCtorEq, Nat.reduceAdd, Nat.reduceMul, Nat.reduceEqDiff, Nat.reduceLT, Nat.reduceLeDiff, Nat.reduceSub, Nat.reducePow, Nat.reduceBEq, Int.reduceToNat, List.reduceReplicate]) ?_ ?_
        · intro hb
          try simp only [hB, decide_eq_true_eq, decide_eq_false_iff_not] at hb
          exfalso; simp at hb
        · intro hb
          try simp only [hB, decide_eq_true_eq, decide_eq_false_iff_not] at hb
          refine AW.skip ?_
          refine hK16 _ _ _ ?_; clear hK16
          refine AW.seq fun K19 hK19 => ?_
          -- region 17
          refine AW.regionD mixed 0 (fun _ => none) [6, 7, 8] [6, 7] ?_
          simp only [go_sem, reduceIte, reduceCtorEq, Nat.reduceAdd, Nat.reduceMul, Nat.reduceEqDiff, Nat.reduceLT, Nat.reduceLeDiff, Nat.reduceSub, Nat.reducePow, Nat.reduceBEq, Int.reduceToNat, List.reduceReplicate, ints_len]
          repeat with_reducible refine cj ?_ ?_
          all_goals try first | omega | exact chk (by kernel_rfl)
          refine hK19 _ _ _ ?_; clear hK19
          refine AW.ret ?_
          rw [← hQr]
          simp only [go_sem, reduceIte, reduceCtorEq, Nat.reduceAdd, Nat.reduceMul, Nat.reduceEqDiff, Nat.reduceLT, Nat.reduceLeDiff, Nat.reduceSub, Nat.reducePow, Nat.reduceBEq, Int.reduceToNat, List.reduceReplicate, ints_len]
          exact Wk.refl _
end Go.Proofs.M

/- A set is valid exactly if no bit behind its numbers is set. -/
namespace Go.AM
theorem validS_bits {N : Int} {W : List Int} (hW : okW W) (h0 : 0 ≤ N) (h1 : N ≤ 512) (hl : (W.length : Int) = wordsN N) (hb : ∀ i : Nat, N ≤ i → i < 64 * W.length → hasW W i = false) : validS N W = true := by
  have e : W = setW (setR N.toNat fun i => hasW W (i : Int)) (setR N.toNat fun i => hasW W (i : Int)).length := by
    have hn : ((setR N.toNat fun i => hasW W (i : Int)).length : Int) = N := by rw [setR_len]; omega
    have hlen : (setW (setR N.toNat fun i => hasW W (i : Int)) (setR N.toNat fun i => hasW W (i : Int)).length).length = W.length := by rw [setW_len', hn]; omega
    refine words_ext hW (setW_ok _) hlen.symm fun i hi => ?_
    rw [hasW_setW _ (by rw [hlen]; omega)]
    by_cases h : (i : Int) < N
    · rw [setR_get (by omega)]
    · rw [hb i (by omega) hi, Go.AM.getD_out (by rw [setR_len]; omega)]
  have hv := validS_setW (b := setR N.toNat fun i => hasW W (i : Int)) (by rw [setR_len]; omega)
  rw [← e] at hv
  rw [show N = ((setR N.toNat fun i => hasW W (i : Int)).length : Int) by rw [setR_len]; omega]
  exact hv
theorem validS_bit {N : Int} {W : List Int} (hW : okW W) (hv : validS N W = true) {i : Nat} (hi : N ≤ i) (hlt : i < 64 * W.length) : hasW W i = false := by
  obtain ⟨b, h1, h2⟩ := setW_of hW hv
  rw [h2, hasW_setW b (by rw [← h2]; omega)]
  rw [Go.AM.getD_out (by omega)]
end Go.AM

namespace Go.Proofs.M
open Go.AM Go
set_option maxRecDepth 100000
set_option maxHeartbeats 2000000
theorem wrap64 {i : Int} (h0 : 0 ≤ i) : IntKind.u64.wrap (i.tmod 64) = i.tmod 64 := by
  have : 0 ≤ i.tmod 64 ∧ i.tmod 64 < 64 := by rw [Int.tmod_eq_emod_of_nonneg h0]; omega
  simp [IntKind.wrap, IntKind.signed, IntKind.bits]; omega
theorem rhas_in (b : List Bool) (hb : b.length ≤ 512) (i : Int) (h0 : 0 ≤ i) (h1 : i < b.length) : Reads Try.prog 23 false [.agg (rowB b), .int .i64 i] (.bool (b.getD i.toNat false)) := by
  have hd := div64_rng (i := i) (n := b.length) h0 (by omega)
  have hwl := setW_len' b
  have hgw := words_getD (l := setW b b.length) (i := (i.tdiv 64).toNat) (by omega)
  have hwr := wrap64 h0
  have hm := setW_mem h0 h1
  have hbl := setB_len hb
  unfold rowB hasW at *
  generalize setW b b.length = W at *
  refine Reads.body (rs := [.tmp 4]) Try.func23 rfl Try.ntmps23 rfl (by simp) ?_
  generalize hQr : retQ _ _ _ = Qr
  refine AW.seq fun K1 hK1 => ?_
  -- region 0
  refine AW.regionK 0 (fun _ => none) [1, 2] [2] ?_
  simp only [go_sem, reduceIte, reduceCtorEq, Nat.reduceAdd, Nat.reduceMul, Nat.reduceEqDiff, Nat.reduceLT, Nat.reduceLeDiff, Nat.reduceSub, Nat.reducePow, Nat.reduceBEq, Int.reduceToNat, List.reduceReplicate]
  repeat with_reducible refine cj ?_ ?_
  all_goals try first | omega
  refine hK1 _ _ _ ?_; clear hK1
  refine AW.seq fun K2 hK2 => ?_
  -- region 1
  refine AW.regionK 0 (fun _ => none) [4] [] ?_
  simp only [go_sem, reduceIte, reduceCtorEq, Nat.reduceAdd, Nat.reduceMul, Nat.reduceEqDiff, Nat.reduceLT, Nat.reduceLeDiff, Nat.reduceSub, Nat.reducePow, Nat.reduceBEq, Int.reduceToNat, List.reduceReplicate, hgw]
  repeat with_reducible refine cj ?_ ?_
  all_goals try first | omega | (intros; (repeat' apply And.intro) <;> first | assumption | omega | decide) | (intro hgd; exact absurd hgd (by decide)) | rfl | (simp only [go_sem, reduceIte, reduceCtorEq, Nat.reduceAdd, Nat.reduceMul, Nat.reduceEqDiff, Nat.reduceLT, Nat.reduceLeDiff, Nat.reduceSub, Nat.reducePow, Nat.reduceBEq, Int.reduceToNat, List.reduceReplicate, hgw]; done) | (intro _hgd; simp_all [go_sem]; done)
  refine hK2 _ _ _ ?_; clear hK2
  refine AW.ret ?_
  rw [← hQr]
  simp only [go_sem, reduceIte, reduceCtorEq, Nat.reduceAdd, Nat.reduceMul, Nat.reduceEqDiff, Nat.reduceLT, Nat.reduceLeDiff, Nat.reduceSub, Nat.reducePow, Nat.reduceBEq, Int.reduceToNat, List.reduceReplicate]
  exact Wk.of_eq (by rw [hm, decide_eq_true h0, decide_eq_true h1]; rfl)
theorem isset_r (N n : Int) (W : List Int) (hW : okW W) (hl : W.length ≤ 1000000) : Reads Try.prog 21 false [.agg [.int .i64 N, .rsl 1 (words W)], .int .i64 n] (.bool (decide (N = n) && validS n W)) := by
  have hwe := wordsN_ref n
  have hnv : ¬ (0 ≤ n ∧ n ≤ 512 ∧ (W.length : Int) = wordsN n) → validS n W = false := fun h => by
    cases e : validS n W
    · rfl
    · exact absurd (validS_sz e) h
  refine Reads.body (rs := [.tmp 4]) Try.func21 rfl Try.ntmps21 rfl (by simp) ?_
  generalize hQr : retQ _ _ _ = Qr
  refine AW.seq fun K1 hK1 => ?_
  -- region 0
  refine AW.regionK 0 (fun _ => none) [1, 2] [2] ?_
  simp only [go_sem, reduceIte, reduceCtorEq, Nat.reduceAdd, Nat.reduceMul, Nat.reduceEqDiff, Nat.reduceLT, Nat.reduceLeDiff, Nat.reduceSub, Nat.reducePow, Nat.reduceBEq, Int.reduceToNat, List.reduceReplicate, hwe]
  repeat with_reducible refine cj ?_ ?_
  all_goals try first | omega
  refine hK1 _ _ _ ?_; clear hK1
  refine AW.seq fun K2 hK2 => ?_
  refine AW.seq fun K3 hK3 => ?_
  -- region 1
  refine AW.regionK 0 (fun _ => none) [1, 2, 26] [2] ?_
  simp only [go_sem, reduceIte, reduceCtorEq, Nat.reduceAdd, Nat.reduceMul, Nat.reduceEqDiff, Nat.reduceLT, Nat.reduceLeDiff, Nat.reduceSub, Nat.reducePow, Nat.reduceBEq, Int.reduceToNat, List.reduceReplicate, hwe]
  repeat with_reducible refine cj ?_ ?_
  all_goals try first | ((intro hh; have hc := hh; simp only [Bool.or_eq_false_iff, decide_eq_false_iff_not] at hc; have hwn2 := wordsN_rng (n := n) (by omega); (repeat' apply And.intro) <;> first | exact hh | omega | decide)) | (intros; (repeat' apply And.intro) <;> first | assumption | ((intro hh; have hc := hh; simp only [Bool.or_eq_false_iff, decide_eq_false_iff_not] at hc; have hwn2 := wordsN_rng (n := n) (by omega); (repeat' apply And.intro) <;> first | exact hh | omega | decide))) | omega | (intro hgd; exact absurd hgd (by decide)) | rfl | (simp only [go_sem, reduceIte, reduceCtorEq, Nat.reduceAdd, Nat.reduceMul, Nat.reduceEqDiff, Nat.reduceLT, Nat.reduceLeDiff, Nat.reduceSub, Nat.reducePow, Nat.reduceBEq, Int.reduceToNat, List.reduceReplicate, hwe]; done) | (intro _hgd; simp_all [go_sem]; done)
  refine hK3 _ _ _ ?_; clear hK3
  -- cond 1
  refine AW.cond rfl (by simp only [go_sem, reduceIte, reduceCtorEq, Nat.reduceAdd, Nat.reduceMul, Nat.reduceEqDiff, Nat.reduceLT, Nat.reduceLeDiff, Nat.reduceSub, Nat.reducePow, Nat.reduceBEq, Int.reduceToNat, List.reduceReplicate]) ?_ ?_
  · intro hb
    try simp only [hB, decide_eq_true_eq, decide_eq_false_iff_not] at hb
    refine AW.seq fun K4 hK4 => ?_
    -- region 2
    refine AW.regionK 0 (fun _ => none) [4] [] ?_
    simp only [go_sem, reduceIte, reduceCtorEq, Nat.reduceAdd, Nat.reduceMul, Nat.reduceEqDiff, Nat.reduceLT, Nat.reduceLeDiff, Nat.reduceSub, Nat.reducePow, Nat.reduceBEq, Int.reduceToNat, List.reduceReplicate, hwe]
    repeat with_reducible refine cj ?_ ?_
    all_goals try first | omega
    refine hK4 _ _ _ ?_; clear hK4
    refine AW.ret ?_
    rw [← hQr]
    simp only [go_sem, reduceIte, reduceCtorEq, Nat.reduceAdd, Nat.reduceMul, Nat.reduceEqDiff, Nat.reduceLT, Nat.reduceLeDiff, Nat.reduceSub, Nat.reducePow, Nat.reduceBEq, Int.reduceToNat, List.reduceReplicate, hwe]
    exact Wk.of_eq (by by_cases hNn : N = n; rw [hnv (by rintro ⟨a, b, c⟩; rcases hb with ((hb | hb) | hb) | hb; exact hb hNn; omega; omega; exact hb c)]; simp; simp [hNn])
  · intro hb
    try simp only [hB, decide_eq_true_eq, decide_eq_false_iff_not] at hb
    have hsz : N = n ∧ 0 ≤ n ∧ n ≤ 512 ∧ (W.length : Int) = wordsN n := by refine ⟨?_, ?_, ?_, ?_⟩ <;> (obtain ⟨⟨⟨a, b⟩, c⟩, d⟩ := hb; omega)
    have hwn := wordsN_rng hsz.2.1
    have hNn := hsz.1
    refine AW.skip ?_
    refine hK2 _ _ _ ?_; clear hK2
    refine AW.seq fun K5 hK5 => ?_
    refine AW.seq fun K6 hK6 => ?_
    -- region 3
    refine AW.regionK 0 (fun _ => none) [2, 5] [2] ?_
    simp only [go_sem, reduceIte, reduceCtorEq, Nat.reduceAdd, Nat.reduceMul, Nat.reduceEqDiff, Nat.reduceLT, Nat.reduceLeDiff, Nat.reduceSub, Nat.reducePow, Nat.reduceBEq, Int.reduceToNat, List.reduceReplicate, hwe]
    repeat with_reducible refine cj ?_ ?_
    all_goals try first | omega
    refine hK6 _ _ _ ?_; clear hK6
    refine AW.block ?_
    -- loop 1
    refine AW.loopE (fun mm ee ss kk => ∃ (i : Nat) (g1 v1 : Nat), 64 * W.length - i = mm ∧ ee = [(2, .ptr ⟨2, g1, none⟩ 0 0), (5, .int .i64 (i : Nat))] ∧ ss = [(2, some ⟨g1, v1, 2, [[.int .i64 N, .rsl 1 (words W)]]⟩)] ∧ (n ≤ i ∧ i ≤ 100000000 ∧ ∀ q : Nat, n ≤ q → q < i → q < 64 * W.length → hasW W q = false)) ?_ ?_
    · refine ⟨_, n.toNat, ?_, ?_, rfl, ?henv, ?hstore, ?hst⟩
      case henv =>
        repeat' (first | rfl | refine env_cons ?_ ?_ | refine st_cons ?_ ?_ ?_ ?_ | refine int_eq ?_ | refine bool_eq ?_ | refine rsl_eq ?_ | refine osl_eq ?_ | refine sl_eq ?_ ?_ ?_ | refine ptr_eq ?_ ?_ ?_ | refine agg_eq ?_ | refine es_cons ?_ ?_ | refine row_cons ?_ ?_)
        all_goals (first | (simp; done) | omega | (simp; omega))
      case hstore =>
        repeat' (first | rfl | refine env_cons ?_ ?_ | refine st_cons ?_ ?_ ?_ ?_ | refine int_eq ?_ | refine bool_eq ?_ | refine rsl_eq ?_ | refine osl_eq ?_ | refine sl_eq ?_ ?_ ?_ | refine ptr_eq ?_ ?_ ?_ | refine agg_eq ?_ | refine es_cons ?_ ?_ | refine row_cons ?_ ?_)
        all_goals (first | (simp; done) | omega | (simp; omega))
      case hst =>
        exact ⟨by omega, by omega, fun q h1 h2 => by omega⟩
    rintro mm ee ss kk ⟨i, g1, v1, rfl, rfl, rfl, hI⟩
    generalize hQl1 : thenQ _ _ = Ql1
    obtain ⟨hNi, hi6, hall⟩ := hI
    refine AW.seq fun K7 hK7 => ?_
    refine AW.seq fun K8 hK8 => ?_
    -- region 4
    refine AW.regionK 0 (fun _ => none) [2, 5, 33] [2] ?_
    simp only [go_sem, reduceIte, reduceCtorEq, Nat.reduceAdd, Nat.reduceMul, Nat.reduceEqDiff, Nat.reduceLT, Nat.reduceLeDiff, Nat.reduceSub, Nat.reducePow, Nat.reduceBEq, Int.reduceToNat, List.reduceReplicate, hwe]
    repeat with_reducible refine cj ?_ ?_
    all_goals try first | omega
    refine hK8 _ _ _ ?_; clear hK8
    -- cond 2
    refine AW.cond rfl (by simp only [go_sem, reduceIte, reduceCtorEq, Nat.reduceAdd, Nat.reduceMul, Nat.reduceEqDiff, Nat.reduceLT, Nat.reduceLeDiff, Nat.reduceSub, Nat.reducePow, Nat.reduceBEq, Int.reduceToNat, List.reduceReplicate]) ?_ ?_
    · intro hb
      try simp only [hB, decide_eq_true_eq, decide_eq_false_iff_not] at hb
      have hgw := words_getD (l := W) (i := (((i : Nat) : Int).tdiv 64).toNat) (by rw [Int.tdiv_eq_ediv_of_nonneg (by omega)]; omega)
      have hd := div64_rng (i := (i : Int)) (n := (i : Int) + 1) (by omega) (by omega)
      have hdl : (i : Int).tdiv 64 < W.length := by rw [Int.tdiv_eq_ediv_of_nonneg (by omega)]; omega
      have hdh : hasW W (i : Nat) = decide ((bShr .u64 (W.getD ((i : Int).tdiv 64).toNat 0) ((i : Int).tmod 64)).tmod 2 = 1) := rfl
      refine AW.skip ?_
      refine hK7 _ _ _ ?_; clear hK7
      refine AW.seq fun K9 hK9 => ?_
      refine AW.block ?_
      refine AW.seq fun K10 hK10 => ?_
      -- region 6
      refine AW.regionK 0 (fun _ => none) [2, 5, 46] [2] ?_
      simp only [go_sem, reduceIte, reduceCtorEq, Nat.reduceAdd, Nat.reduceMul, Nat.reduceEqDiff, Nat.reduceLT, Nat.reduceLeDiff, Nat.reduceSub, Nat.reducePow, Nat.reduceBEq, Int.reduceToNat, List.reduceReplicate, hwe, hgw, ← hdh]
      repeat with_reducible refine cj ?_ ?_
      all_goals try first | omega
      refine hK10 _ _ _ ?_; clear hK10
      -- cond 3
      refine AW.cond rfl (by simp only [go_sem, reduceIte, reduceCtorEq, Nat.reduceAdd, Nat.reduceMul, Nat.reduceEqDiff, Nat.reduceLT, Nat.reduceLeDiff, Nat.reduceSub, Nat.reducePow, Nat.reduceBEq, Int.reduceToNat, List.reduceReplicate]) ?_ ?_
      · intro hb
        try simp only [hB, decide_eq_true_eq, decide_eq_false_iff_not] at hb
        refine AW.seq fun K11 hK11 => ?_
        -- region 7
        refine AW.regionK 0 (fun _ => none) [4] [] ?_
        simp only [go_sem, reduceIte, reduceCtorEq, Nat.reduceAdd, Nat.reduceMul, Nat.reduceEqDiff, Nat.reduceLT, Nat.reduceLeDiff, Nat.reduceSub, Nat.reducePow, Nat.reduceBEq, Int.reduceToNat, List.reduceReplicate, hwe]
        repeat with_reducible refine cj ?_ ?_
        all_goals try first | omega
        refine hK11 _ _ _ ?_; clear hK11
        refine AW.ret ?_
        rw [← hQl1]
        rw [← hQr]
        simp only [go_sem, reduceIte, reduceCtorEq, Nat.reduceAdd, Nat.reduceMul, Nat.reduceEqDiff, Nat.reduceLT, Nat.reduceLeDiff, Nat.reduceSub, Nat.reducePow, Nat.reduceBEq, Int.reduceToNat, List.reduceReplicate, hwe]
        have hvf : validS n W = false := by
          cases e : validS n W
          · rfl
          · rw [validS_bit hW e hNi (by omega)] at hb; cases hb
        exact Wk.of_eq (by rw [hvf]; simp)
      · intro hb
        try simp only [hB, decide_eq_true_eq, decide_eq_false_iff_not] at hb
        have hb0 : hasW W (i : Nat) = false := by simpa using hb
        refine AW.skip ?_
        refine hK9 _ _ _ ?_; clear hK9
        -- region 5
        refine AW.regionK 0 (fun _ => none) [2, 5] [2] ?_
        simp only [go_sem, reduceIte, reduceCtorEq, Nat.reduceAdd, Nat.reduceMul, Nat.reduceEqDiff, Nat.reduceLT, Nat.reduceLeDiff, Nat.reduceSub, Nat.reducePow, Nat.reduceBEq, Int.reduceToNat, List.reduceReplicate, hwe]
        repeat with_reducible refine cj ?_ ?_
        all_goals try first | omega
        rw [← hQl1]
        change Exists _
        refine ⟨_, ?hm, i + 1, ?_, ?_, rfl, ?henv, ?hstore, ?hst⟩
        case henv =>
          repeat' (first | rfl | refine env_cons ?_ ?_ | refine st_cons ?_ ?_ ?_ ?_ | refine int_eq ?_ | refine bool_eq ?_ | refine rsl_eq ?_ | refine osl_eq ?_ | refine sl_eq ?_ ?_ ?_ | refine ptr_eq ?_ ?_ ?_ | refine agg_eq ?_ | refine es_cons ?_ ?_ | refine row_cons ?_ ?_)
          all_goals (first | (simp; done) | omega | (simp; omega))
        case hstore =>
          repeat' (first | rfl | refine env_cons ?_ ?_ | refine st_cons ?_ ?_ ?_ ?_ | refine int_eq ?_ | refine bool_eq ?_ | refine rsl_eq ?_ | refine osl_eq ?_ | refine sl_eq ?_ ?_ ?_ | refine ptr_eq ?_ ?_ ?_ | refine agg_eq ?_ | refine es_cons ?_ ?_ | refine row_cons ?_ ?_)
          all_goals (first | (simp; done) | omega | (simp; omega))
        case hst =>
          refine ⟨by omega, by omega, fun q h1 h2 h3 => ?_⟩
          by_cases e : q = i
          · rw [e]; exact hb0
          · exact hall q h1 (by omega) h3
        case hm => omega
    · intro hb
      try simp only [hB, decide_eq_true_eq, decide_eq_false_iff_not] at hb
      refine AW.keep [] [] ?_
      try simp only [go_sem, reduceIte, reduceCtorEq, Nat.reduceAdd, Nat.reduceMul, Nat.reduceEqDiff, Nat.reduceLT, Nat.reduceLeDiff, Nat.reduceSub, Nat.reducePow, Nat.reduceBEq, Int.reduceToNat, List.reduceReplicate]
      refine AW.exit ?_
      rw [← hQl1]
      refine hK5 _ _ _ ?_; clear hK5
      refine AW.seq fun K12 hK12 => ?_
      -- region 8
      refine AW.regionK 0 (fun _ => none) [4] [] ?_
      simp only [go_sem, reduceIte, reduceCtorEq, Nat.reduceAdd, Nat.reduceMul, Nat.reduceEqDiff, Nat.reduceLT, Nat.reduceLeDiff, Nat.reduceSub, Nat.reducePow, Nat.reduceBEq, Int.reduceToNat, List.reduceReplicate, hwe]
      repeat with_reducible refine cj ?_ ?_
      all_goals try first | omega
      refine hK12 _ _ _ ?_; clear hK12
      refine AW.ret ?_
      rw [← hQr]
      simp only [go_sem, reduceIte, reduceCtorEq, Nat.reduceAdd, Nat.reduceMul, Nat.reduceEqDiff, Nat.reduceLT, Nat.reduceLeDiff, Nat.reduceSub, Nat.reducePow, Nat.reduceBEq, Int.reduceToNat, List.reduceReplicate, hwe]
      exact Wk.of_eq (by rw [validS_bits hW hsz.2.1 hsz.2.2.1 hsz.2.2.2 fun q h1 h2 => hall q h1 (by omega) h2]; simp [hNn])
theorem fil_succ (p : Nat → Bool) (j : Nat) : ((List.range (j + 1)).filter p).length = ((List.range j).filter p).length + if p j = true then 1 else 0 := by
  rw [List.range_succ, List.filter_append, List.length_append]
  by_cases h : p j = true <;> simp [h]
theorem fil_le (p : Nat → Bool) (j : Nat) : ((List.range j).filter p).length ≤ j := by
  have := List.length_filter_le p (List.range j)
  simpa using this
theorem rcount_r (b : List Bool) (hb : b.length ≤ 512) : Reads Try.prog 27 false [.agg (rowB b)] (.int .i64 ((memB b).length : Nat)) := by
  have hhr := rhas_in b hb
  have hbl := setB_len hb
  have hmb : (memB b).length = ((List.range b.length).filter fun i => b.getD i false).length := rfl
  unfold rowB at *
  refine Reads.body (rs := [.tmp 2]) Try.func27 rfl Try.ntmps27 rfl (by simp) ?_
  generalize hQr : retQ _ _ _ = Qr
  refine AW.seq fun K1 hK1 => ?_
  -- region 0
  refine AW.regionK 0 (fun _ => none) [1] [1] ?_
  simp only [go_sem, reduceIte, reduceCtorEq, Nat.reduceAdd, Nat.reduceMul, Nat.reduceEqDiff, Nat.reduceLT, Nat.reduceLeDiff, Nat.reduceSub, Nat.reducePow, Nat.reduceBEq, Int.reduceToNat, List.reduceReplicate]
  repeat with_reducible refine cj ?_ ?_
  all_goals try first | omega
  refine hK1 _ _ _ ?_; clear hK1
  refine AW.seq fun K2 hK2 => ?_
  -- region 1
  refine AW.regionK 0 (fun _ => none) [1, 3] [1] ?_
  simp only [go_sem, reduceIte, reduceCtorEq, Nat.reduceAdd, Nat.reduceMul, Nat.reduceEqDiff, Nat.reduceLT, Nat.reduceLeDiff, Nat.reduceSub, Nat.reducePow, Nat.reduceBEq, Int.reduceToNat, List.reduceReplicate]
  repeat with_reducible refine cj ?_ ?_
  all_goals try first | omega
  refine hK2 _ _ _ ?_; clear hK2
  refine AW.seq fun K3 hK3 => ?_
  refine AW.seq fun K4 hK4 => ?_
  -- region 2
  refine AW.regionK 0 (fun _ => none) [1, 3, 4] [1] ?_
  simp only [go_sem, reduceIte, reduceCtorEq, Nat.reduceAdd, Nat.reduceMul, Nat.reduceEqDiff, Nat.reduceLT, Nat.reduceLeDiff, Nat.reduceSub, Nat.reducePow, Nat.reduceBEq, Int.reduceToNat, List.reduceReplicate]
  repeat with_reducible refine cj ?_ ?_
  all_goals try first | omega
  refine hK4 _ _ _ ?_; clear hK4
  refine AW.block ?_
  -- loop 1
  refine AW.loopE (fun mm ee ss kk => ∃ (j g1 v1 : Nat), b.length - j = mm ∧ ee = [(1, .ptr ⟨1, g1, none⟩ 0 0), (3, .int .i64 (((List.range j).filter fun i => b.getD i false).length : Nat)), (4, .int .i64 (j : Nat))] ∧ ss = [(1, some ⟨g1, v1, 2, [[.int .i64 b.length, .rsl 1 (words (setW b b.length))]]⟩)] ∧ (j ≤ b.length)) ?_ ?_
  · refine ⟨_, 0, ?_, ?_, rfl, ?henv, ?hstore, ?hst⟩
    case henv =>
      repeat' (first | rfl | refine env_cons ?_ ?_ | refine st_cons ?_ ?_ ?_ ?_ | refine int_eq ?_ | refine bool_eq ?_ | refine rsl_eq ?_ | refine osl_eq ?_ | refine sl_eq ?_ ?_ ?_ | refine ptr_eq ?_ ?_ ?_ | refine agg_eq ?_ | refine es_cons ?_ ?_ | refine row_cons ?_ ?_)
      all_goals (first | (simp; done) | omega | (simp; omega))
    case hstore =>
      repeat' (first | rfl | refine env_cons ?_ ?_ | refine st_cons ?_ ?_ ?_ ?_ | refine int_eq ?_ | refine bool_eq ?_ | refine rsl_eq ?_ | refine osl_eq ?_ | refine sl_eq ?_ ?_ ?_ | refine ptr_eq ?_ ?_ ?_ | refine agg_eq ?_ | refine es_cons ?_ ?_ | refine row_cons ?_ ?_)
      all_goals (first | (simp; done) | omega | (simp; omega))
    case hst =>
      first | trivial | omega | (simp; done) | (simp; omega)
  rintro mm ee ss kk ⟨j, g1, v1, rfl, rfl, rfl, hI⟩
  generalize hQl1 : thenQ _ _ = Ql1
  refine AW.seq fun K5 hK5 => ?_
  refine AW.seq fun K6 hK6 => ?_
  -- region 3
  refine AW.regionK 0 (fun _ => none) [1, 3, 4, 8] [1] ?_
  simp only [go_sem, reduceIte, reduceCtorEq, Nat.reduceAdd, Nat.reduceMul, Nat.reduceEqDiff, Nat.reduceLT, Nat.reduceLeDiff, Nat.reduceSub, Nat.reducePow, Nat.reduceBEq, Int.reduceToNat, List.reduceReplicate]
  repeat with_reducible refine cj ?_ ?_
  all_goals try first | omega
  refine hK6 _ _ _ ?_; clear hK6
  -- cond 1
  refine AW.cond rfl (by simp only [go_sem, reduceIte, reduceCtorEq, Nat.reduceAdd, Nat.reduceMul, Nat.reduceEqDiff, Nat.reduceLT, Nat.reduceLeDiff, Nat.reduceSub, Nat.reducePow, Nat.reduceBEq, Int.reduceToNat, List.reduceReplicate]) ?_ ?_
  · intro hb
    try simp only [hB, decide_eq_true_eq, decide_eq_false_iff_not] at hb
    have hh := hhr (j : Int) (by omega) (by omega)
    rw [Int.toNat_natCast] at hh
    have hsu := fil_succ (fun i => b.getD i false) j
    have hfl := fil_le (fun i => b.getD i false) j
    refine AW.skip ?_
    refine hK5 _ _ _ ?_; clear hK5
    refine AW.seq fun K7 hK7 => ?_
    refine AW.block ?_
    refine AW.seq fun K8 hK8 => ?_
    -- region 5
    refine AW.regionK 0 (fun ii => if ii = 2 then some (.reads false (.bool (b.getD j false))) else none) [1, 3, 4, 13] [1] ?_
    simp only [go_sem, reduceIte, reduceCtorEq, Nat.reduceAdd, Nat.reduceMul, Nat.reduceEqDiff, Nat.reduceLT, Nat.reduceLeDiff, Nat.reduceSub, Nat.reducePow, Nat.reduceBEq, Int.reduceToNat, List.reduceReplicate]
    repeat with_reducible refine cj ?_ ?_
    all_goals try first | (exact hh) | omega | exact ent (by kernel_rfl)
    refine hK8 _ _ _ ?_; clear hK8
    -- cond 2
    refine AW.cond rfl (by simp only [go_sem, reduceIte, reduceCtorEq, Nat.reduceAdd, Nat.reduceMul, Nat.reduceEqDiff, Nat.reduceLT, Nat.reduceLeDiff, Nat.reduceSub, Nat.reducePow, Nat.reduceBEq, Int.reduceToNat, List.reduceReplicate]) ?_ ?_
    · intro hb
      try simp only [hB, decide_eq_true_eq, decide_eq_false_iff_not] at hb
      rw [if_pos hb] at hsu
      -- region 6
      refine AW.regionK 0 (fun _ => none) [1, 3, 4] [1] ?_
      simp only [go_sem, reduceIte, reduceCtorEq, Nat.reduceAdd, Nat.reduceMul, Nat.reduceEqDiff, Nat.reduceLT, Nat.reduceLeDiff, Nat.reduceSub, Nat.reducePow, Nat.reduceBEq, Int.reduceToNat, List.reduceReplicate]
      repeat with_reducible refine cj ?_ ?_
      all_goals try first | omega
      refine hK7 _ _ _ ?_; clear hK7
      -- region 4
      refine AW.regionK 0 (fun _ => none) [1, 3, 4] [1] ?_
      simp only [go_sem, reduceIte, reduceCtorEq, Nat.reduceAdd, Nat.reduceMul, Nat.reduceEqDiff, Nat.reduceLT, Nat.reduceLeDiff, Nat.reduceSub, Nat.reducePow, Nat.reduceBEq, Int.reduceToNat, List.reduceReplicate]
      repeat with_reducible refine cj ?_ ?_
      all_goals try first | omega
      rw [← hQl1]
      change Exists _
      refine ⟨_, ?hm, j + 1, ?_, ?_, rfl, ?henv, ?hstore, ?hst⟩
      case henv =>
        repeat' (first | rfl | refine env_cons ?_ ?_ | refine st_cons ?_ ?_ ?_ ?_ | refine int_eq ?_ | refine bool_eq ?_ | refine rsl_eq ?_ | refine osl_eq ?_ | refine sl_eq ?_ ?_ ?_ | refine ptr_eq ?_ ?_ ?_ | refine agg_eq ?_ | refine es_cons ?_ ?_ | refine row_cons ?_ ?_)
        all_goals (first | (rw [hsu]; done) | (rw [hsu]; simp; done) | (simp; done) | omega)
      case hstore =>
        repeat' (first | rfl | refine env_cons ?_ ?_ | refine st_cons ?_ ?_ ?_ ?_ | refine int_eq ?_ | refine bool_eq ?_ | refine rsl_eq ?_ | refine osl_eq ?_ | refine sl_eq ?_ ?_ ?_ | refine ptr_eq ?_ ?_ ?_ | refine agg_eq ?_ | refine es_cons ?_ ?_ | refine row_cons ?_ ?_)
        all_goals (first | (simp; done) | omega | (simp; omega))
      case hst =>
        first | trivial | omega | (simp; done) | (simp; omega)
      case hm => omega
    · intro hb
      try simp only [hB, decide_eq_true_eq, decide_eq_false_iff_not] at hb
      rw [if_neg (by rw [hb]; simp)] at hsu
      refine AW.skip ?_
      refine hK7 _ _ _ ?_; clear hK7
      -- region 4
      refine AW.regionK 0 (fun _ => none) [1, 3, 4] [1] ?_
      simp only [go_sem, reduceIte, reduceCtorEq, Nat.reduceAdd, Nat.reduceMul, Nat.reduceEqDiff, Nat.reduceLT, Nat.reduceLeDiff, Nat.reduceSub, Nat.reducePow, Nat.reduceBEq, Int.reduceToNat, List.reduceReplicate]
      repeat with_reducible refine cj ?_ ?_
      all_goals try first | omega
      rw [← hQl1]
      change Exists _
      refine ⟨_, ?hm, j + 1, ?_, ?_, rfl, ?henv, ?hstore, ?hst⟩
      case henv =>
        repeat' (first | rfl | refine env_cons ?_ ?_ | refine st_cons ?_ ?_ ?_ ?_ | refine int_eq ?_ | refine bool_eq ?_ | refine rsl_eq ?_ | refine osl_eq ?_ | refine sl_eq ?_ ?_ ?_ | refine ptr_eq ?_ ?_ ?_ | refine agg_eq ?_ | refine es_cons ?_ ?_ | refine row_cons ?_ ?_)
        all_goals (first | (rw [hsu]; done) | (rw [hsu]; simp; done) | (simp; done) | omega)
      case hstore =>
        repeat' (first | rfl | refine env_cons ?_ ?_ | refine st_cons ?_ ?_ ?_ ?_ | refine int_eq ?_ | refine bool_eq ?_ | refine rsl_eq ?_ | refine osl_eq ?_ | refine sl_eq ?_ ?_ ?_ | refine ptr_eq ?_ ?_ ?_ | refine agg_eq ?_ | refine es_cons ?_ ?_ | refine row_cons ?_ ?_)
        all_goals (first | (simp; done) | omega | (simp; omega))
      case hst =>
        first | trivial | omega | (simp; done) | (simp; omega)
      case hm => omega
  · intro hb
    try simp only [hB, decide_eq_true_eq, decide_eq_false_iff_not] at hb
    refine AW.keep [3] [] ?_
    try simp only [go_sem, reduceIte, reduceCtorEq, Nat.reduceAdd, Nat.reduceMul, Nat.reduceEqDiff, Nat.reduceLT, Nat.reduceLeDiff, Nat.reduceSub, Nat.reducePow, Nat.reduceBEq, Int.reduceToNat, List.reduceReplicate]
    refine AW.exit ?_
    rw [← hQl1]
    refine hK3 _ _ _ ?_; clear hK3
    refine AW.seq fun K9 hK9 => ?_
    -- region 7
    refine AW.regionK 0 (fun _ => none) [2] [] ?_
    simp only [go_sem, reduceIte, reduceCtorEq, Nat.reduceAdd, Nat.reduceMul, Nat.reduceEqDiff, Nat.reduceLT, Nat.reduceLeDiff, Nat.reduceSub, Nat.reducePow, Nat.reduceBEq, Int.reduceToNat, List.reduceReplicate]
    repeat with_reducible refine cj ?_ ?_
    all_goals try first | omega
    refine hK9 _ _ _ ?_; clear hK9
    refine AW.ret ?_
    rw [← hQr]
    simp only [go_sem, reduceIte, reduceCtorEq, Nat.reduceAdd, Nat.reduceMul, Nat.reduceEqDiff, Nat.reduceLT, Nat.reduceLeDiff, Nat.reduceSub, Nat.reducePow, Nat.reduceBEq, Int.reduceToNat, List.reduceReplicate]
    have hj : j = b.length := by omega
    subst hj
    exact Wk.of_eq (by rw [hmb])
theorem hall_good {n m : Nat} {E : List (Int × Int)} (h : Gd n m E) : Reads Try.prog 20 false [.int .i64 n, .int .i64 m, .rsl 2 (E.map pairV)] (if (rchM n m E).l.length = 0 then .tup [.agg [.int .i64 0, .nilsl], .int .i64 7] else .tup [.agg [.int .i64 n, .rsl 1 (words (setW (rowL n (rchM n m E).l) n))], .int .i64 0]) := by
  have hn := h.hn
  have hm := h.hm
  have hvr := mvalid_r n m E (by have := h.hl; omega)
  rw [h.valid] at hvr
  have hmx := maximum_u hn hm h.hE h.hl
  have hre := reached_r hn hm (nbOf_len n E) h.rng h.row h.max.1
  have hrl := h.rngL
  have hlen := h.rch.hlen
  have hLn := h.max.1.hL
  have hRm := h.max.1.hR
  rw [show reachP (nbOf n E) (maxLR (nbOf n E) n m n).1 (maxLR (nbOf n E) n m n).2 n m = rchM n m E from rfl] at hre
  generalize rchM n m E = T at *
  generalize maxLR (nbOf n E) n m n = x at *
  obtain ⟨L, R⟩ := x
  unfold graphS at hmx
  simp only at hmx hre hLn hRm ⊢
  generalize nbR (nbOf n E) = X at *
  have htL : (ints L).take n = ints L := List.take_of_length_le (by rw [ints_len]; omega)
  have htR : (ints R).take m = ints R := List.take_of_length_le (by rw [ints_len]; omega)
  have hol := of_b T.l hn (by omega) hrl
  refine Reads.body (rs := [.cell 6 30, .tmp 7]) Try.func20 rfl Try.ntmps20 rfl (by simp) ?_
  generalize hQr : retQ _ _ _ = Qr
  refine AW.seq fun K1 hK1 => ?_
  -- region 0
  refine AW.regionK 0 (fun _ => none) [0, 1, 2, 6] [6] ?_
  simp only [go_sem, reduceIte, reduceCtorEq, Nat.reduceAdd, Nat.reduceMul, Nat.reduceEqDiff, Nat.reduceLT, Nat.reduceLeDiff, Nat.reduceSub, Nat.reducePow, Nat.reduceBEq, Int.reduceToNat, List.reduceReplicate, ints_len]
  repeat with_reducible refine cj ?_ ?_
  all_goals try first | omega
  refine hK1 _ _ _ ?_; clear hK1
  refine AW.seq fun K2 hK2 => ?_
  refine AW.seq fun K3 hK3 => ?_
  -- region 1
  refine AW.regionK 0 (fun ii => if ii = 3 then some (.reads false (.bool true)) else none) [0, 1, 2, 6, 14] [6] ?_
  simp only [go_sem, reduceIte, reduceCtorEq, Nat.reduceAdd, Nat.reduceMul, Nat.reduceEqDiff, Nat.reduceLT, Nat.reduceLeDiff, Nat.reduceSub, Nat.reducePow, Nat.reduceBEq, Int.reduceToNat, List.reduceReplicate, ints_len]
  repeat with_reducible refine cj ?_ ?_
  all_goals try first | (exact hvr) | omega | exact ent (by kernel_rfl)
  refine hK3 _ _ _ ?_; clear hK3
  -- cond 1
  refine AW.cond rfl (by simp only [go_sem, reduceIte, reduceCtorEq, Nat.reduceAdd, Nat.reduceMul, Nat.reduceEqDiff, Nat.reduceLT, Nat.reduceLeDiff, Nat.reduceSub, Nat.reducePow, Nat.reduceBEq, Int.reduceToNat, List.reduceReplicate]) ?_ ?_
  · intro hb
    try simp only [hB, decide_eq_true_eq, decide_eq_false_iff_not] at hb
    exact absurd hb (by simp)
  · intro hb
    try simp only [hB, decide_eq_true_eq, decide_eq_false_iff_not] at hb
    refine AW.skip ?_
    refine hK2 _ _ _ ?_; clear hK2
    refine AW.seq fun K4 hK4 => ?_
    -- region 3
    refine AW.regionK 0 (fun ii => if ii = 3 then some (.upd [] (fun k => [(0, some ⟨k, k, 3, [[.rsl 1 X, .sl ⟨1, k, none⟩ 0 n none, .sl ⟨2, k, none⟩ 0 m none]]⟩), (1, some ⟨k, k, 1, ints L⟩), (2, some ⟨k, k, 1, ints R⟩)]) (fun k => .ptr ⟨0, k, none⟩ 0 0)) else if ii = 4 then some (.upd [20, 1020, 2020] (fun _ => []) (fun _ => .tup [.rsl 1 (ints T.l), .rsl 1 (ints T.q)])) else none) [0, 6, 8] [6] ?_
    simp only [go_sem, reduceIte, reduceCtorEq, Nat.reduceAdd, Nat.reduceMul, Nat.reduceEqDiff, Nat.reduceLT, Nat.reduceLeDiff, Nat.reduceSub, Nat.reducePow, Nat.reduceBEq, Int.reduceToNat, List.reduceReplicate, ints_len]
    repeat with_reducible refine cj ?_ ?_
    all_goals try first | (first | exact hmx | exact hre.upd (by simp only [List.map_cons, List.map_nil, go_sem, reduceIte, Nat.reduceEqDiff, htL, htR, vwc_ints])) | omega | exact ent (by kernel_rfl)
    refine hK4 _ _ _ ?_; clear hK4
    refine AW.seq fun K5 hK5 => ?_
    refine AW.seq fun K6 hK6 => ?_
    -- region 4
    refine AW.regionK 0 (fun _ => none) [0, 6, 8, 26] [6] ?_
    simp only [go_sem, reduceIte, reduceCtorEq, Nat.reduceAdd, Nat.reduceMul, Nat.reduceEqDiff, Nat.reduceLT, Nat.reduceLeDiff, Nat.reduceSub, Nat.reducePow, Nat.reduceBEq, Int.reduceToNat, List.reduceReplicate, ints_len]
    repeat with_reducible refine cj ?_ ?_
    all_goals try first | omega
    refine hK6 _ _ _ ?_; clear hK6
    -- cond 2
    refine AW.cond rfl (by simp only [go_sem, reduceIte, reduceCtorEq, Nat.reduceAdd, Nat.reduceMul, Nat.reduceEqDiff, Nat.reduceLT, Nat.reduceLeDiff, Nat.reduceSub, Nat.reducePow, Nat.reduceBEq, Int.reduceToNat, List.reduceReplicate]) ?_ ?_
    · intro hb
      try simp only [hB, decide_eq_true_eq, decide_eq_false_iff_not] at hb
      refine AW.seq fun K7 hK7 => ?_
      -- region 5
      refine AW.regionK 0 (fun _ => none) [6, 7] [6] ?_
      simp only [go_sem, reduceIte, reduceCtorEq, Nat.reduceAdd, Nat.reduceMul, Nat.reduceEqDiff, Nat.reduceLT, Nat.reduceLeDiff, Nat.reduceSub, Nat.reducePow, Nat.reduceBEq, Int.reduceToNat, List.reduceReplicate, ints_len]
      repeat with_reducible refine cj ?_ ?_
      all_goals try first | omega
      refine hK7 _ _ _ ?_; clear hK7
      refine AW.ret ?_
      rw [← hQr]
      simp only [go_sem, reduceIte, reduceCtorEq, Nat.reduceAdd, Nat.reduceMul, Nat.reduceEqDiff, Nat.reduceLT, Nat.reduceLeDiff, Nat.reduceSub, Nat.reducePow, Nat.reduceBEq, Int.reduceToNat, List.reduceReplicate, ints_len]
      exact Wk.of_eq (by rw [if_pos (by omega)])
    · intro hb
      try simp only [hB, decide_eq_true_eq, decide_eq_false_iff_not] at hb
      refine AW.skip ?_
      refine hK5 _ _ _ ?_; clear hK5
      refine AW.seq fun K8 hK8 => ?_
      -- region 6
      refine AW.regionK 0 (fun ii => if ii = 2 then some (.reads true (.tup [.agg [.int .i64 n, .rsl 1 (words (setW (rowL n T.l) n))], .int .i64 0])) else none) [6, 7] [6] ?_
      simp only [go_sem, reduceIte, reduceCtorEq, Nat.reduceAdd, Nat.reduceMul, Nat.reduceEqDiff, Nat.reduceLT, Nat.reduceLeDiff, Nat.reduceSub, Nat.reducePow, Nat.reduceBEq, Int.reduceToNat, List.reduceReplicate, ints_len]
      repeat with_reducible refine cj ?_ ?_
      all_goals try first | (exact hol) | omega | exact ent (by kernel_rfl)
      refine hK8 _ _ _ ?_; clear hK8
      refine AW.ret ?_
      rw [← hQr]
      simp only [go_sem, reduceIte, reduceCtorEq, Nat.reduceAdd, Nat.reduceMul, Nat.reduceEqDiff, Nat.reduceLT, Nat.reduceLeDiff, Nat.reduceSub, Nat.reducePow, Nat.reduceBEq, Int.reduceToNat, List.reduceReplicate, ints_len]
      exact Wk.of_eq (by rw [if_neg (by omega)])
end Go.Proofs.M

namespace Go.Proofs.M
open Go.AM Go
set_option maxRecDepth 100000
set_option maxHeartbeats 2000000
/-- The reference's reached nodes. -/
def refM (n m : Nat) (E : List (Int × Int)) : FSt := reachF (maxLR (nbOf n E) n m n).2 E n m
theorem Gd.edg {n m : Nat} {E : List (Int × Int)} (h : Gd n m E) : ∀ e ∈ E, edgeIn n m e = true ∧ e.2 ∈ nbl (nbOf n E) e.1.toNat := fun e he => by
  have h1 := edgeIn_iff.1 (h.hE e he)
  refine ⟨h.hE e he, (nbOf_mem h.hE _ _).2 ?_⟩
  rw [Int.toNat_of_nonneg h1.1]; exact he
theorem Gd.ref {n m : Nat} {E : List (Int × Int)} (h : Gd n m E) : (refM n m E).1.length = n ∧ (refM n m E).2.length = m ∧ (∀ i, sg (refM n m E).1 i ↔ RL (nbOf n E) n (maxLR (nbOf n E) n m n).1 (maxLR (nbOf n E) n m n).2 i) ∧ ∀ r, sg (refM n m E).2 r ↔ RR (nbOf n E) n (maxLR (nbOf n E) n m n).1 (maxLR (nbOf n E) n m n).2 r :=
  reachF_spec h.max.1 h.edg fun l r hr => (nbOf_mem h.hE l r).1 hr
end Go.Proofs.M

namespace Go.Proofs.M
open Go.AM Go
set_option maxRecDepth 100000
set_option maxHeartbeats 2000000
end Go.Proofs.M

/- Matchings, covers, and deficiencies. -/
namespace Go.AM
theorem nodup_sub {α : Type} [DecidableEq α] : ∀ {l l' : List α}, l.Nodup → (∀ x ∈ l, x ∈ l') → l.length ≤ l'.length
  | [], _, _, _ => Nat.zero_le _
  | a :: l, l', h, hs => by
    have ha := hs a (by simp)
    obtain ⟨h1, h2⟩ := List.nodup_cons.1 h
    have := nodup_sub (l := l) (l' := l'.erase a) h2 fun x hx => by
      have hne : x ≠ a := fun e => h1 (by rw [← e]; exact hx)
      exact (List.mem_erase_of_ne hne).2 (hs x (by simp [hx]))
    rw [List.length_erase_of_mem ha] at this
    have := List.length_pos_of_mem ha
    simp only [List.length_cons]; omega
def cnt (p : Nat → Bool) (n : Nat) : Nat := ((List.range n).filter p).length
theorem cnt_succ (p : Nat → Bool) (n : Nat) : cnt p (n + 1) = cnt p n + if p n = true then 1 else 0 := by
  unfold cnt
  rw [List.range_succ, List.filter_append, List.length_append]
  by_cases h : p n = true <;> simp [h]
theorem cnt_inj {p q : Nat → Bool} {n m : Nat} (f : Nat → Nat) (h1 : ∀ i, i < n → p i = true → f i < m ∧ q (f i) = true) (h2 : ∀ i j, i < n → j < n → p i = true → p j = true → f i = f j → i = j) : cnt p n ≤ cnt q m := by
  have := nodup_sub (l := ((List.range n).filter p).map f) (l' := (List.range m).filter q) ?_ ?_
  · rw [List.length_map] at this; exact this
  · refine List.pairwise_map.2 (List.Pairwise.imp_of_mem ?_ (List.Pairwise.sublist List.filter_sublist (List.nodup_range (n := n))))
    intro a b ha hb hab e
    simp only [List.mem_filter, List.mem_range] at ha hb
    exact hab (h2 a b ha.1 hb.1 ha.2 hb.2 e)
  · intro x hx
    obtain ⟨i, hi, rfl⟩ := List.mem_map.1 hx
    simp only [List.mem_filter, List.mem_range] at hi ⊢
    exact h1 i hi.1 hi.2
theorem cnt_mono {p q : Nat → Bool} {n : Nat} (h : ∀ i, i < n → p i = true → q i = true) : cnt p n ≤ cnt q n := cnt_inj (fun i => i) (fun i hi hp => ⟨hi, h i hi hp⟩) fun _ _ _ _ _ _ e => e
theorem cnt_congr {p q : Nat → Bool} {n : Nat} (h : ∀ i, i < n → p i = q i) : cnt p n = cnt q n := Nat.le_antisymm (cnt_mono fun i hi hp => by rw [← h i hi]; exact hp) (cnt_mono fun i hi hp => by rw [h i hi]; exact hp)
theorem cnt_split (p q : Nat → Bool) : ∀ n, cnt p n = cnt (fun i => p i && q i) n + cnt (fun i => p i && !q i) n
  | 0 => rfl
  | n + 1 => by
    rw [cnt_succ, cnt_succ, cnt_succ, cnt_split p q n]
    cases p n <;> cases q n <;> simp <;> omega
theorem cnt_all {p q : Nat → Bool} : ∀ {n : Nat}, (∀ i, i < n → p i = true → q i = true) → cnt q n ≤ cnt p n → ∀ i, i < n → q i = true → p i = true
  | 0, _, _, i, hi, _ => by omega
  | n + 1, h, hc, i, hi, hq => by
    have h1 := cnt_mono (n := n) fun i hi => h i (by omega)
    rw [cnt_succ, cnt_succ] at hc
    have hn := h n (by omega)
    by_cases e : i = n
    · subst e
      cases hp : p i with
      | true => rfl
      | false => rw [hp, hq] at hc; simp at hc; omega
    · refine cnt_all (n := n) (fun i hi => h i (by omega)) ?_ i (by omega) hq
      cases hp : p n <;> cases hqn : q n <;> simp [hp, hqn] at hc hn ⊢ <;> omega
section
variable {n m : Nat} {E : List (Int × Int)} {L R : List Int}
abbrev pL (L : List Int) (i : Nat) : Bool := decide (0 ≤ gi L i)
theorem prsL_mem (hL : L.length = n) (p : Int × Int) : p ∈ prsL L n ↔ ∃ i : Nat, i < n ∧ 0 ≤ gi L i ∧ p = ((i : Int), gi L i) := by
  simp only [prsL, List.mem_map, List.mem_filter, List.mem_range, decide_eq_true_eq]
  constructor
  · rintro ⟨i, ⟨h1, h2⟩, rfl⟩
    rw [gi_eq (by omega)] at h2 ⊢
    exact ⟨i, h1, h2, rfl⟩
  · rintro ⟨i, h1, h2, rfl⟩
    exact ⟨i, ⟨h1, by rw [gi_eq (by omega)]; exact h2⟩, by rw [gi_eq (by omega)]⟩
theorem prsL_len (hL : L.length = n) : (prsL L n).length = cnt (pL L) n := by
  unfold prsL
  rw [List.length_map]
  exact cnt_congr fun i hi => by rw [gi_eq (by omega)]
theorem isMat_iff {E P : List (Int × Int)} : isMat E P = true ↔ (∀ p ∈ P, p ∈ E) ∧ (P.map (·.1)).Nodup ∧ (P.map (·.2)).Nodup := by
  simp [isMat]
theorem mch_mat (hM : Mch n m (nbOf n E) L R) (hE : ∀ e ∈ E, edgeIn n m e = true) : isMat E (prsL L n) = true := by
  rw [isMat_iff]
  refine ⟨fun p hp => ?_, ?_, ?_⟩
  · obtain ⟨i, h1, h2, rfl⟩ := (prsL_mem hM.hL p).1 hp
    exact (nbOf_mem hE i _).1 (hM.hE i h2)
  · unfold prsL
    rw [List.map_map]
    refine List.pairwise_map.2 (List.Pairwise.imp_of_mem ?_ (List.Pairwise.sublist List.filter_sublist (List.nodup_range (n := n))))
    intro a b _ _ hab e
    simp only [Function.comp] at e
    omega
  · unfold prsL
    rw [List.map_map]
    refine List.pairwise_map.2 (List.Pairwise.imp_of_mem ?_ (List.Pairwise.sublist List.filter_sublist (List.nodup_range (n := n))))
    intro a b ha hb hab e
    have hLl := hM.hL
    simp only [List.mem_filter, List.mem_range, decide_eq_true_eq] at ha hb
    simp only [Function.comp] at e
    rw [gi_eq (by omega)] at e ha hb
    rw [gi_eq (by omega)] at e
    have h1 := (hM.hC a (gi L a).toNat).1 (by omega)
    have h2 := (hM.hC b (gi L a).toNat).1 (by omega)
    omega
theorem NoAug.sub {nb : List (List Int)} (h : NoAug nb n L R) : ∀ r, RR nb n L R r → 0 ≤ gi R r := by
  obtain ⟨T, hT, hf⟩ := h
  have hl : ∀ l, RL nb n L R l → ∀ r ∈ nbl nb l, T r.toNat := by
    intro l hl
    induction hl with
    | free a b => exact hf _ a b
    | step a b c ih =>
      have h1 := (hT _ (ih _ b)).2
      rw [c, Int.toNat_natCast] at h1
      exact h1
  rintro r ⟨l, h1, h2⟩
  have := hT _ (hl l h1 _ h2)
  rw [Int.toNat_natCast] at this
  exact this.1
structure Rch (n m : Nat) (E : List (Int × Int)) (L R : List Int) (S T : Nat → Bool) : Prop where
  hM : Mch n m (nbOf n E) L R
  hA : NoAug (nbOf n E) n L R
  hE : ∀ e ∈ E, edgeIn n m e = true
  hS : ∀ i, S i = true ↔ RL (nbOf n E) n L R i
  hT : ∀ r, T r = true ↔ RR (nbOf n E) n L R r
variable {S T : Nat → Bool}
theorem Rch.edge (h : Rch n m E L R S T) {e : Int × Int} (he : e ∈ E) (hs : S e.1.toNat = true) : T e.2.toNat = true := by
  have h1 := edgeIn_iff.1 (h.hE e he)
  refine (h.hT _).2 ⟨_, (h.hS _).1 hs, (nbOf_mem h.hE _ _).2 ?_⟩
  rw [Int.toNat_of_nonneg h1.1, Int.toNat_of_nonneg h1.2.2.1]; exact he
theorem Rch.mate (h : Rch n m E L R S T) {r : Nat} (hr : T r = true) : 0 ≤ gi R r ∧ S (gi R r).toNat = true := by
  have h1 := (h.hT r).1 hr
  have h2 := h.hA.sub r h1
  obtain ⟨l, a, b⟩ := h1
  exact ⟨h2, (h.hS _).2 (.step a b (by rw [Int.toNat_natCast]; omega))⟩
theorem Rch.free (h : Rch n m E L R S T) {i : Nat} (hi : i < n) (hs : gi L i < 0) : S i = true := (h.hS i).2 (.free hi hs)
theorem Rch.to (h : Rch n m E L R S T) {i : Nat} (hs : S i = true) (hp : 0 ≤ gi L i) : T (gi L i).toNat = true :=
  (h.hT _).2 ⟨i, (h.hS i).1 hs, by rw [Int.toNat_of_nonneg hp]; exact h.hM.hE i hp⟩
theorem Rch.cntT (h : Rch n m E L R S T) : cnt (fun i => pL L i && S i) n = cnt T m := by
  have hM := h.hM
  refine Nat.le_antisymm (cnt_inj (fun i => (gi L i).toNat) (fun i hi hp => ?_) fun i j hi hj hp hq e => ?_) (cnt_inj (fun r => (gi R r).toNat) (fun r hr hp => ?_) fun i j hi hj hp hq e => ?_)
  · simp only [pL, Bool.and_eq_true, decide_eq_true_eq] at hp
    have h1 := hM.hLm i
    exact ⟨by omega, h.to hp.2 hp.1⟩
  · simp only [pL, Bool.and_eq_true, decide_eq_true_eq] at hp hq
    have h1 := (hM.hC i (gi L i).toNat).1 (by omega)
    have h2 := (hM.hC j (gi L i).toNat).1 (by omega)
    omega
  · have h2 := h.mate hp
    have h1 := hM.hRn r
    have := (hM.hC (gi R r).toNat r).2 (by omega)
    simp only [pL, Bool.and_eq_true, decide_eq_true_eq]
    exact ⟨by omega, by omega, h2.2⟩
  · have h3 := h.mate hp
    have h4 := h.mate hq
    have h1 := (hM.hC (gi R i).toNat i).2 (by omega)
    have h2 := (hM.hC (gi R i).toNat j).2 (by omega)
    omega
theorem Rch.cntS (h : Rch n m E L R S T) : cnt (fun i => pL L i && !S i) n = cnt (fun i => !S i) n :=
  cnt_congr fun i hi => by
    cases hs : S i with
    | true => simp
    | false =>
      by_cases hp : 0 ≤ gi L i
      · simp [hp]
      · have := h.free hi (by omega); rw [hs] at this; cases this
theorem Rch.cover (h : Rch n m E L R S T) : cnt (fun i => !S i) n + cnt T m = cnt (pL L) n := by
  rw [cnt_split (pL L) S n, h.cntT, h.cntS]; omega
/-- No matching has more edges than a cover has nodes. -/
theorem weak {P : List (Int × Int)} (hE : ∀ e ∈ E, edgeIn n m e = true) (hP : isMat E P = true) (A B : Nat → Bool) (hc : ∀ e ∈ E, A e.1.toNat = true ∨ B e.2.toNat = true) : P.length ≤ cnt A n + cnt B m := by
  obtain ⟨h1, h2, h3⟩ := isMat_iff.1 hP
  have hs : P.length = (P.filter fun p => A p.1.toNat).length + (P.filter fun p => !A p.1.toNat).length := by
    clear hP h1 h2 h3
    induction P with
    | nil => rfl
    | cons p P ih => cases h : A p.1.toNat <;> simp [h] <;> omega
  have ha := nodup_sub (l := (P.filter fun p => A p.1.toNat).map (·.1)) (l' := ((List.range n).filter A).map fun (i : Nat) => (i : Int)) ?_ ?_
  · have hb := nodup_sub (l := (P.filter fun p => !A p.1.toNat).map (·.2)) (l' := ((List.range m).filter B).map fun (i : Nat) => (i : Int)) ?_ ?_
    · rw [List.length_map, List.length_map] at ha hb
      unfold cnt
      omega
    · exact List.Pairwise.sublist (List.Sublist.map _ List.filter_sublist) h3
    · intro x hx
      obtain ⟨p, hp, rfl⟩ := List.mem_map.1 hx
      obtain ⟨hp1, hp2⟩ := List.mem_filter.1 hp
      have hr := edgeIn_iff.1 (hE p (h1 p hp1))
      refine List.mem_map.2 ⟨p.2.toNat, List.mem_filter.2 ⟨List.mem_range.2 (by omega), ?_⟩, by omega⟩
      rcases hc p (h1 p hp1) with h | h
      · rw [h] at hp2; cases hp2
      · exact h
  · exact List.Pairwise.sublist (List.Sublist.map _ List.filter_sublist) h2
  · intro x hx
    obtain ⟨p, hp, rfl⟩ := List.mem_map.1 hx
    obtain ⟨hp1, hp2⟩ := List.mem_filter.1 hp
    have hr := edgeIn_iff.1 (hE p (h1 p hp1))
    exact List.mem_map.2 ⟨p.1.toNat, List.mem_filter.2 ⟨List.mem_range.2 (by omega), hp2⟩, by omega⟩
theorem Rch.most (h : Rch n m E L R S T) {P : List (Int × Int)} (hP : isMat E P = true) : P.length ≤ cnt (pL L) n := by
  rw [← h.cover]
  refine weak h.hE hP _ _ fun e he => ?_
  cases hs : S e.1.toNat with
  | true => exact .inr (h.edge he hs)
  | false => exact .inl rfl
/-- A minimum cover has the right part of the nearest one. -/
theorem Rch.least (h : Rch n m E L R S T) {A B : Nat → Bool} (hc : ∀ e ∈ E, A e.1.toNat = true ∨ B e.2.toNat = true) (hk : cnt A n + cnt B m ≤ cnt (pL L) n) {r : Nat} (hr : T r = true) : B r = true := by
  have hM := h.hM
  have e1 := cnt_split (pL L) A n
  have e2 : cnt (fun i => pL L i && A i) n ≤ cnt A n := cnt_mono fun i _ hp => by simp at hp; exact hp.2
  have e3 : cnt (fun i => pL L i && !A i) n ≤ cnt (fun r => B r && (pL R r && !A (gi R r).toNat)) m := cnt_inj (fun i => (gi L i).toNat) (fun i hi hp => by
    simp only [pL, Bool.and_eq_true, decide_eq_true_eq] at hp
    have h1 := hM.hLm i
    have h2 := (hM.hC i (gi L i).toNat).1 (by omega)
    refine ⟨by omega, ?_⟩
    have he : (((i : Nat) : Int), gi L i) ∈ E := (nbOf_mem h.hE i _).1 (hM.hE i hp.1)
    simp only [pL, Bool.and_eq_true, decide_eq_true_eq, h2, Int.toNat_natCast]
    refine ⟨?_, by omega, hp.2⟩
    rcases hc _ he with h3 | h3
    · simp only [Int.toNat_natCast] at h3
      rw [h3] at hp; simp at hp
    · exact h3) fun i j hi hj hp hq e => by
    simp only [pL, Bool.and_eq_true, decide_eq_true_eq] at hp hq
    have h1 := (hM.hC i (gi L i).toNat).1 (by omega)
    have h2 := (hM.hC j (gi L i).toNat).1 (by omega)
    omega
  have e4 : cnt (fun r => B r && (pL R r && !A (gi R r).toNat)) m ≤ cnt B m := cnt_mono fun i _ hp => by
    simp only [Bool.and_eq_true] at hp; exact hp.1
  have f1 := cnt_all (p := fun i => pL L i && A i) (q := A) (n := n) (fun i _ hp => by simp at hp; exact hp.2) (by omega)
  have f2 := cnt_all (p := fun r => B r && (pL R r && !A (gi R r).toNat)) (q := B) (n := m) (fun i _ hp => by simp only [Bool.and_eq_true] at hp; exact hp.1) (by omega)
  have hl : ∀ l, RL (nbOf n E) n L R l → A l = false := by
    intro l hl
    induction hl with
    | @free l a b =>
      cases hA : A l with
      | false => rfl
      | true => have := f1 l a hA; simp [pL] at this; omega
    | @step l r l2 a b c ih =>
      have he := (nbOf_mem h.hE l r).1 b
      have hr := edgeIn_iff.1 (h.hE _ he)
      simp only at hr
      rcases hc _ he with h3 | h3
      · simp only [Int.toNat_natCast] at h3
        rw [h3] at ih; cases ih
      · have := f2 r.toNat (by omega) h3
        simp only [Bool.and_eq_true, Bool.not_eq_true', c, Int.toNat_natCast] at this
        exact this.2.2
  obtain ⟨l, a, b⟩ := (h.hT r).1 hr
  have he := (nbOf_mem h.hE l r).1 b
  rcases hc _ he with h3 | h3
  · simp only [Int.toNat_natCast] at h3
    rw [hl l a] at h3; cases h3
  · simpa using h3
/-- The neighbors of a set. -/
def nbX (E : List (Int × Int)) (X : Nat → Bool) (r : Nat) : Bool := E.any fun e => X e.1.toNat && decide (e.2 = (r : Int))
theorem nbX_iff {X : Nat → Bool} {r : Nat} : nbX E X r = true ↔ ∃ e ∈ E, X e.1.toNat = true ∧ e.2 = (r : Int) := by
  simp [nbX]
theorem Rch.hall (h : Rch n m E L R S T) (X : Nat → Bool) : cnt X n ≤ cnt (nbX E X) m + cnt (fun i => !pL L i) n ∧
    (cnt (nbX E X) m + cnt (fun i => !pL L i) n ≤ cnt X n → ∀ i, S i = true → X i = true) := by
  have hM := h.hM
  have e1 := cnt_split X (pL L) n
  have e2 : cnt (fun i => X i && !pL L i) n ≤ cnt (fun i => !pL L i) n := cnt_mono fun i _ hp => by
    simp only [Bool.and_eq_true] at hp; exact hp.2
  have e3 : cnt (fun i => X i && pL L i) n ≤ cnt (fun r => nbX E X r && (pL R r && X (gi R r).toNat)) m := cnt_inj (fun i => (gi L i).toNat) (fun i hi hp => by
    simp only [pL, Bool.and_eq_true, decide_eq_true_eq] at hp
    have h1 := hM.hLm i
    have h2 := (hM.hC i (gi L i).toNat).1 (by omega)
    have he : (((i : Nat) : Int), gi L i) ∈ E := (nbOf_mem h.hE i _).1 (hM.hE i hp.2)
    refine ⟨by omega, ?_⟩
    simp only [pL, Bool.and_eq_true, decide_eq_true_eq, h2, Int.toNat_natCast]
    exact ⟨nbX_iff.2 ⟨_, he, by simpa using hp.1, by simp only; omega⟩, by omega, hp.1⟩) fun i j hi hj hp hq e => by
    simp only [pL, Bool.and_eq_true, decide_eq_true_eq] at hp hq
    have h1 := (hM.hC i (gi L i).toNat).1 (by omega)
    have h2 := (hM.hC j (gi L i).toNat).1 (by omega)
    omega
  have e4 : cnt (fun r => nbX E X r && (pL R r && X (gi R r).toNat)) m ≤ cnt (nbX E X) m := cnt_mono fun i _ hp => by
    simp only [Bool.and_eq_true] at hp; exact hp.1
  refine ⟨by omega, fun hq => ?_⟩
  have f1 := cnt_all (p := fun i => X i && !pL L i) (q := fun i => !pL L i) (n := n) (fun i _ hp => by simp only [Bool.and_eq_true] at hp; exact hp.2) (by omega)
  have f2 := cnt_all (p := fun r => nbX E X r && (pL R r && X (gi R r).toNat)) (q := nbX E X) (n := m) (fun i _ hp => by simp only [Bool.and_eq_true] at hp; exact hp.1) (by omega)
  intro i hi
  have hl := (h.hS i).1 hi
  clear hi
  induction hl with
  | @free l a b =>
    have := f1 l a (by simp [pL]; omega)
    simp only [Bool.and_eq_true] at this
    exact this.1
  | @step l r l2 a b c ih =>
    have he := (nbOf_mem h.hE l r).1 b
    have hr := edgeIn_iff.1 (h.hE _ he)
    simp only at hr
    have := f2 r.toNat (by omega) (nbX_iff.2 ⟨_, he, by simpa using ih, by simp only; omega⟩)
    simp only [Bool.and_eq_true, c, Int.toNat_natCast] at this
    exact this.2.2
end
end Go.AM

namespace Go.Proofs.M
open Go.AM Go
set_option maxRecDepth 100000
set_option maxHeartbeats 2000000
def exE : List (Int × Int) := [(0, 0), (1, 0)]
theorem ex_gd : Gd 2 2 exE := ⟨by decide, by decide, by decide, by decide, by decide⟩
theorem isset_b (b : List Bool) (hb : b.length ≤ 512) : Reads Try.prog 21 false [.agg [.int .i64 b.length, .rsl 1 (words (setW b b.length))], .int .i64 b.length] (.bool true) := by
  have := isset_r b.length b.length (setW b b.length) (setW_ok b) (by have := setB_len hb; omega)
  rw [validS_setW hb] at this
  simpa using this
theorem awake_r : Reads Try.prog 9 false [] (.bool true) := by
  have h1 := max_good ex_gd.valid
  have h2 := cover_good ex_gd
  have h3 := hall_good ex_gd
  have v1 : maxP 2 2 exE = [(0, 0)] := by decide +kernel
  have v2 : cvL 2 2 exE = [false, false] := by decide +kernel
  have v3 : cvR 2 2 exE = [true, false] := by decide +kernel
  have v4 : (rchM 2 2 exE).l = [1, 0] := by decide +kernel
  have v5 : rowL 2 [1, 0] = [true, true] := by decide +kernel
  rw [v1] at h1
  rw [v2, v3] at h2
  rw [v4, if_neg (by decide), v5] at h3
  have s1 := isset_b [false, false] (by decide)
  have s2 := isset_b [true, false] (by decide)
  have s3 := isset_b [true, true] (by decide)
  have c1 := rcount_r [false, false] (by decide)
  have c3 := rcount_r [true, true] (by decide)
  have g1 := rhas_in [true, false] (by decide) 0 (by decide) (by decide)
  have g2 := rhas_in [true, false] (by decide) 1 (by decide) (by decide)
  have e1 : (memB [false, false]).length = 0 := by decide
  have e3 : (memB [true, true]).length = 2 := by decide
  rw [e1] at c1
  rw [e3] at c3
  unfold rowB at c1 c3 g1 g2
  simp only [List.length_cons, List.length_nil, Nat.reduceAdd] at s1 s2 s3 c1 c3 g1 g2
  simp only [exE, pairV, List.map_cons, List.map_nil] at h1 h2 h3
  generalize setW [false, false] 2 = A at *
  generalize setW [true, false] 2 = B at *
  generalize setW [true, true] 2 = C at *
  refine Reads.body (rs := [.tmp 0]) Try.func9 rfl Try.ntmps9 rfl (by simp) ?_
  generalize hQr : retQ _ _ _ = Qr
  refine AW.seq fun K1 hK1 => ?_
  -- region 0
  refine AW.regionK 0 (fun _ => none) [] [] ?_
  simp only [go_sem, reduceIte, reduceCtorEq, Nat.reduceAdd, Nat.reduceMul, Nat.reduceEqDiff, Nat.reduceLT, Nat.reduceLeDiff, Nat.reduceSub, Nat.reducePow, Nat.reduceBEq, Int.reduceToNat, List.reduceReplicate, decide_true, eq_self]
  repeat with_reducible refine cj ?_ ?_
  all_goals try first | omega
  refine hK1 _ _ _ ?_; clear hK1
  refine AW.seq fun K2 hK2 => ?_
  -- region 1
  refine AW.regionK 0 (fun _ => none) [1] [11] ?_
  simp only [go_sem, reduceIte, reduceCtorEq, Nat.reduceAdd, Nat.reduceMul, Nat.reduceEqDiff, Nat.reduceLT, Nat.reduceLeDiff, Nat.reduceSub, Nat.reducePow, Nat.reduceBEq, Int.reduceToNat, List.reduceReplicate, decide_true, eq_self]
  repeat with_reducible refine cj ?_ ?_
  all_goals try first | omega
  refine hK2 _ _ _ ?_; clear hK2
  refine AW.seq fun K3 hK3 => ?_
  refine AW.freezeK [11] [1] [] [] ?_
  simp only [go_sem, reduceIte, Nat.reduceEqDiff]
  -- region 2
  refine AW.regionK 0 (fun ii => if ii = 1 then some (.reads false (.tup [.rsl 2 [[.int .i64 0, .int .i64 0]], .int .i64 0])) else none) [1, 2, 3] [11] ?_
  simp only [go_sem, reduceIte, reduceCtorEq, Nat.reduceAdd, Nat.reduceMul, Nat.reduceEqDiff, Nat.reduceLT, Nat.reduceLeDiff, Nat.reduceSub, Nat.reducePow, Nat.reduceBEq, Int.reduceToNat, List.reduceReplicate, decide_true, eq_self]
  repeat with_reducible refine cj ?_ ?_
  all_goals try first | (exact h1) | omega | exact ent (by kernel_rfl)
  refine hK3 _ _ _ ?_; clear hK3
  refine AW.seq fun K4 hK4 => ?_
  -- region 3
  refine AW.regionK 0 (fun ii => if ii = 1 then some (.reads false (.tup [.agg [.int .i64 2, .rsl 1 (words A)], .agg [.int .i64 2, .rsl 1 (words B)], .int .i64 0])) else none) [1, 2, 3, 4, 5, 6] [4, 5, 11] ?_
  simp only [go_sem, reduceIte, reduceCtorEq, Nat.reduceAdd, Nat.reduceMul, Nat.reduceEqDiff, Nat.reduceLT, Nat.reduceLeDiff, Nat.reduceSub, Nat.reducePow, Nat.reduceBEq, Int.reduceToNat, List.reduceReplicate, decide_true, eq_self]
  repeat with_reducible refine cj ?_ ?_
  all_goals try first | (exact h2) | omega | exact ent (by kernel_rfl)
  refine hK4 _ _ _ ?_; clear hK4
  refine AW.seq fun K5 hK5 => ?_
  -- region 4
  refine AW.regionK 0 (fun ii => if ii = 1 then some (.reads false (.tup [.agg [.int .i64 2, .rsl 1 (words C)], .int .i64 0])) else none) [2, 3, 4, 5, 6, 7, 8] [4, 5, 7] ?_
  simp only [go_sem, reduceIte, reduceCtorEq, Nat.reduceAdd, Nat.reduceMul, Nat.reduceEqDiff, Nat.reduceLT, Nat.reduceLeDiff, Nat.reduceSub, Nat.reducePow, Nat.reduceBEq, Int.reduceToNat, List.reduceReplicate, decide_true, eq_self]
  repeat with_reducible refine cj ?_ ?_
  all_goals try first | (exact h3) | omega | exact ent (by kernel_rfl)
  refine hK5 _ _ _ ?_; clear hK5
  refine AW.seq fun K6 hK6 => ?_
  -- region 5
  refine AW.regionK 0 (fun ii => if ii = 13 then some (.reads false (.bool true)) else if ii = 17 then some (.reads false (.int .i64 0)) else if ii = 22 then some (.reads false (.bool true)) else if ii = 26 then some (.reads false (.bool true)) else if ii = 30 then some (.reads false (.bool false)) else if ii = 39 then some (.reads false (.bool true)) else if ii = 43 then some (.reads false (.int .i64 2)) else none) [0] [] ?_
  simp (maxSteps := 2000000) only [go_sem, reduceIte, reduceCtorEq, Nat.reduceAdd, Nat.reduceMul, Nat.reduceEqDiff, Nat.reduceLT, Nat.reduceLeDiff, Nat.reduceSub, Nat.reducePow, Nat.reduceBEq, Int.reduceToNat, List.reduceReplicate, decide_true, eq_self]
  repeat with_reducible refine cj ?_ ?_
  all_goals try first | (first | exact s1 | exact s2 | exact s3 | exact c1 | exact c3 | exact g1 | exact g2) | (intros; (repeat' apply And.intro) <;> first | assumption | (first | exact s1 | exact s2 | exact s3 | exact c1 | exact c3 | exact g1 | exact g2)) | omega | exact ent (by kernel_rfl) | (intro hgd; exact absurd hgd (by decide)) | rfl | (simp only [go_sem, reduceIte, reduceCtorEq, Nat.reduceAdd, Nat.reduceMul, Nat.reduceEqDiff, Nat.reduceLT, Nat.reduceLeDiff, Nat.reduceSub, Nat.reducePow, Nat.reduceBEq, Int.reduceToNat, List.reduceReplicate, decide_true, eq_self]; done) | (intro _hgd; simp_all [go_sem]; done)
  refine hK6 _ _ _ ?_; clear hK6
  refine AW.ret ?_
  rw [← hQr]
  simp only [go_sem, reduceIte, reduceCtorEq, Nat.reduceAdd, Nat.reduceMul, Nat.reduceEqDiff, Nat.reduceLT, Nat.reduceLeDiff, Nat.reduceSub, Nat.reducePow, Nat.reduceBEq, Int.reduceToNat, List.reduceReplicate, decide_true, eq_self]
  exact Wk.refl _
end Go.Proofs.M

namespace Go.Proofs.M
open Go.AM Go
set_option maxRecDepth 100000
set_option maxHeartbeats 2000000
theorem prsL_up (L : List Int) (n i : Nat) (a b : Int × Int) (ha : (prsL L n)[i]? = some a) (hb : (prsL L n)[i + 1]? = some b) : a.1 < b.1 := by
  have hp : (prsL L n).Pairwise fun x y => x.1 < y.1 := by
    unfold prsL
    refine List.pairwise_map.2 (List.Pairwise.imp (fun {a b} h => ?_) (List.Pairwise.sublist List.filter_sublist (List.pairwise_lt_range (n := n))))
    simp only; omega
  obtain ⟨h1, rfl⟩ := List.getElem?_eq_some_iff.1 ha
  obtain ⟨h2, rfl⟩ := List.getElem?_eq_some_iff.1 hb
  exact List.pairwise_iff_getElem.1 hp i (i + 1) h1 h2 (by omega)
theorem maxP_mat {n m : Nat} {E : List (Int × Int)} (h : Gd n m E) : isMat E (maxP n m E) = true := mch_mat h.max.1 h.hE
theorem maxP_le (n m : Nat) (E : List (Int × Int)) : (maxP n m E).length ≤ n := prsL_le _ _
end Go.Proofs.M

/- A given list of pairs, laid as a matching. -/
namespace Go.AM
theorem Mch.join {n m : Nat} {nb : List (List Int)} {L R : List Int} (h : Mch n m nb L R) {a b : Nat} (ha : a < n) (hb : b < m) (hab : (b : Int) ∈ nbl nb a) (h1 : gi L a < 0) (h2 : gi R b < 0) : Mch n m nb (L.set a b) (R.set b a) := by
  have hLl := h.hL
  have hRl := h.hR
  refine ⟨by simp [hLl], by simp [hRl], fun r => ?_, fun l => ?_, fun l r => ?_, fun l hl => ?_⟩
  · rw [gi_set]; split
    · omega
    · exact h.hRn r
  · rw [gi_set]; split
    · omega
    · exact h.hLm l
  · rw [gi_set, gi_set]
    have h3 := h.hC l r
    by_cases e1 : a = l
    · subst e1
      rw [if_pos (by omega)]
      by_cases e2 : b = r
      · subst e2; rw [if_pos (by omega)]; simp
      · rw [if_neg (by omega)]
        constructor
        · intro h4; omega
        · intro h4; have := h3.2 h4; omega
    · rw [if_neg (by omega)]
      by_cases e2 : b = r
      · subst e2; rw [if_pos (by omega)]
        constructor
        · intro h4; have := h3.1 h4; omega
        · intro h4; omega
      · rw [if_neg (by omega)]; exact h3
  · rw [gi_set] at hl ⊢
    split
    · rename_i e; rw [← e.1]; exact hab
    · rename_i e; rw [if_neg e] at hl; exact h.hE l hl
def pstep (x : List Int × List Int) (p : Int × Int) : List Int × List Int := (x.1.set p.1.toNat p.2, x.2.set p.2.toNat p.1)
def plc (n m : Nat) (P : List (Int × Int)) : List Int × List Int := P.foldl pstep (List.replicate n (-1), List.replicate m (-1))
theorem plc_succ (n m : Nat) {P : List (Int × Int)} {j : Nat} {p : Int × Int} (hp : P[j]? = some p) : plc n m (P.take (j + 1)) = ((plc n m (P.take j)).1.set p.1.toNat p.2, (plc n m (P.take j)).2.set p.2.toNat p.1) := by
  unfold plc
  rw [List.take_add_one, hp, List.foldl_append]; rfl
structure PlI (n m : Nat) (E P : List (Int × Int)) (x : List Int × List Int) : Prop where
  hM : Mch n m (nbOf n E) x.1 x.2
  hL : ∀ i : Nat, 0 ≤ gi x.1 i ↔ (P.any fun q => decide (q.1 = (i : Int))) = true
  hR : ∀ i : Nat, 0 ≤ gi x.2 i ↔ (P.any fun q => decide (q.2 = (i : Int))) = true
  hp : ∀ p ∈ P, gi x.1 p.1.toNat = p.2
  hE : ∀ p ∈ P, p ∈ E
  h1 : (P.map (·.1)).Nodup
  h2 : (P.map (·.2)).Nodup
theorem plI_nil (n m : Nat) (E : List (Int × Int)) : PlI n m E [] (plc n m []) :=
  ⟨mch_start n m _, fun i => by show 0 ≤ gi (List.replicate n (-1)) i ↔ _; rw [gi_rep]; simp, fun i => by show 0 ≤ gi (List.replicate m (-1)) i ↔ _; rw [gi_rep]; simp, fun p h => (by cases h), fun p h => (by cases h), by simp, by simp⟩
theorem plI_snoc {n m : Nat} {E P : List (Int × Int)} {x : List Int × List Int} (hE : ∀ e ∈ E, edgeIn n m e = true) (h : PlI n m E P x) {p : Int × Int} (hp : p ∈ E) (h1 : gi x.1 p.1.toNat < 0) (h2 : gi x.2 p.2.toNat < 0) :
    PlI n m E (P ++ [p]) (x.1.set p.1.toNat p.2, x.2.set p.2.toNat p.1) := by
  obtain ⟨q1, q2, q3, q4⟩ := edgeIn_iff.1 (hE p hp)
  obtain ⟨p1, p2⟩ := p
  obtain ⟨a, rfl⟩ : ∃ a : Nat, p1 = a := ⟨p1.toNat, by simp only at q1; omega⟩
  obtain ⟨b, rfl⟩ : ∃ b : Nat, p2 = b := ⟨p2.toNat, by simp only at q3; omega⟩
  simp only [Int.toNat_natCast] at h1 h2 q2 q4 ⊢
  have hLl := h.hM.hL
  have hRl := h.hM.hR
  have n1 : (P.any fun q => decide (q.1 = (a : Int))) = false := by
    cases e : P.any fun q => decide (q.1 = (a : Int)) with
    | false => rfl
    | true => have := (h.hL a).2 e; omega
  have n2 : (P.any fun q => decide (q.2 = (b : Int))) = false := by
    cases e : P.any fun q => decide (q.2 = (b : Int)) with
    | false => rfl
    | true => have := (h.hR b).2 e; omega
  refine ⟨h.hM.join (by omega) (by omega) ((nbOf_mem hE a b).2 hp) h1 h2, fun i => ?_, fun i => ?_, fun q hq => ?_, fun q hq => ?_, map_nodup_snoc h.h1 (by simpa using n1), map_nodup_snoc h.h2 (by simpa using n2)⟩
  · rw [List.any_append]
    simp only [gi_set, List.any_cons, List.any_nil, Bool.or_false]
    by_cases e : a = i
    · subst e; rw [if_pos (by omega)]; simp
    · rw [if_neg (by omega), h.hL i]
      have : ¬ (a : Int) = (i : Int) := by omega
      simp [this]
  · rw [List.any_append]
    simp only [gi_set, List.any_cons, List.any_nil, Bool.or_false]
    by_cases e : b = i
    · subst e; rw [if_pos (by omega)]; simp
    · rw [if_neg (by omega), h.hR i]
      have : ¬ (b : Int) = (i : Int) := by omega
      simp [this]
  · simp only [gi_set]
    rcases List.mem_append.1 hq with hq | hq
    · have h3 := h.hp q hq
      have h4 := edgeIn_iff.1 (hE q (h.hE q hq))
      rw [if_neg]
      · exact h3
      · rintro ⟨e, _⟩
        rw [← e] at h3; omega
    · simp only [List.mem_singleton] at hq
      subst hq
      show (if (a : Int).toNat = (a : Int).toNat ∧ _ then _ else _) = _
      exact if_pos ⟨rfl, by omega⟩
  · rcases List.mem_append.1 hq with hq | hq
    · exact h.hE q hq
    · simp only [List.mem_singleton] at hq; rw [hq]; exact hp
theorem PlI.bad {n m : Nat} {E P : List (Int × Int)} {j : Nat} {p : Int × Int} {x : List Int × List Int} (hE : ∀ e ∈ E, edgeIn n m e = true) (h : PlI n m E (P.take j) x) (hp : P[j]? = some p) (hb : p ∉ E ∨ 0 ≤ gi x.1 p.1.toNat ∨ 0 ≤ gi x.2 p.2.toNat) : isMat E P = false := by
  cases hm : isMat E P with
  | false => rfl
  | true =>
    exfalso
    obtain ⟨a1, a2, a3⟩ := isMat_iff.1 hm
    have hpe := a1 p (List.mem_of_getElem? hp)
    have hr := edgeIn_iff.1 (hE p hpe)
    rcases hb with hb | hb | hb
    · exact hb hpe
    · have := (h.hL _).1 hb
      rw [Int.toNat_of_nonneg hr.1] at this
      exact map_not_nodup (f := (·.1)) hp this a2
    · have := (h.hR _).1 hb
      rw [Int.toNat_of_nonneg hr.2.2.1] at this
      exact map_not_nodup (f := (·.2)) hp this a3
theorem PlI.mat {n m : Nat} {E P : List (Int × Int)} {x : List Int × List Int} (h : PlI n m E P x) : isMat E P = true := isMat_iff.2 ⟨h.hE, h.h1, h.h2⟩
theorem nodup_of_map {α β : Type} {f : α → β} {l : List α} (h : (l.map f).Nodup) : l.Nodup :=
  List.Pairwise.imp (fun h e => h (by rw [e])) (List.pairwise_map.1 h)
theorem PlI.len {n m : Nat} {E P : List (Int × Int)} {x : List Int × List Int} (hE : ∀ e ∈ E, edgeIn n m e = true) (h : PlI n m E P x) : P.length = cnt (pL x.1) n := by
  rw [← prsL_len h.hM.hL]
  refine Nat.le_antisymm (nodup_sub (nodup_of_map h.h1) fun p hp => ?_) (nodup_sub (nodup_of_map (isMat_iff.1 (mch_mat h.hM hE)).2.1) fun p hp => ?_)
  · have h1 := h.hp p hp
    have hr := edgeIn_iff.1 (hE p (h.hE p hp))
    exact (prsL_mem h.hM.hL p).2 ⟨p.1.toNat, by omega, by omega, by rw [h1, Int.toNat_of_nonneg hr.1]⟩
  · obtain ⟨i, h1, h2, rfl⟩ := (prsL_mem h.hM.hL p).1 hp
    have h3 := (h.hL i).1 h2
    rw [List.any_eq_true] at h3
    obtain ⟨q, hq, e⟩ := h3
    rw [decide_eq_true_eq] at e
    have h4 := h.hp q hq
    rw [e, Int.toNat_natCast] at h4
    have : ((i : Int), gi x.1 i) = q := by
      obtain ⟨q1, q2⟩ := q
      simp only at e h4
      rw [e, h4]
    rw [this]; exact hq
end Go.AM

namespace Go.Proofs.M
open Go.AM Go
set_option maxRecDepth 100000
set_option maxHeartbeats 2000000
theorem index2_r (E : List (Int × Int)) (x : Int × Int) (hl : E.length ≤ 9223372036854775807) : Reads Try.prog 63 false [.rsl 2 (E.map pairV), .agg (pairV x)] (.int .i64 (ixf (fun y => decide (x = y)) E)) := by
  unfold pairV
  have hpv : (fun p : Int × Int => [AV.int .i64 p.1, AV.int .i64 p.2]) = pairV := rfl
  refine Reads.body (rs := [.tmp 4]) Try.func63 rfl Try.ntmps63 rfl (by simp) ?_
  generalize hQr : retQ _ _ _ = Qr
  refine AW.seq fun K1 hK1 => ?_
  -- region 0
  refine AW.regionK 0 (fun _ => none) [0, 3] [3] ?_
  simp only [go_sem, reduceIte, reduceCtorEq, Nat.reduceAdd, Nat.reduceMul, Nat.reduceEqDiff, Nat.reduceLT, Nat.reduceLeDiff, Nat.reduceSub, Nat.reducePow, Nat.reduceBEq, Int.reduceToNat, List.reduceReplicate, hpv]
  repeat with_reducible refine cj ?_ ?_
  all_goals try first | omega
  refine hK1 _ _ _ ?_; clear hK1
  refine AW.seq fun K2 hK2 => ?_
  refine AW.seq fun K3 hK3 => ?_
  -- region 1
  refine AW.regionK 0 (fun _ => none) [0, 3, 7, 8] [3] ?_
  simp only [go_sem, reduceIte, reduceCtorEq, Nat.reduceAdd, Nat.reduceMul, Nat.reduceEqDiff, Nat.reduceLT, Nat.reduceLeDiff, Nat.reduceSub, Nat.reducePow, Nat.reduceBEq, Int.reduceToNat, List.reduceReplicate, hpv]
  repeat with_reducible refine cj ?_ ?_
  all_goals try first | omega
  refine hK3 _ _ _ ?_; clear hK3
  refine AW.block ?_
  -- loop 1
  refine AW.loopE (fun mm ee ss kk => ∃ (j g v : Nat), E.length - j = mm ∧ ee = [(0, .rsl 2 (E.map pairV)), (3, .ptr ⟨3, g, none⟩ 0 0), (7, .int .i64 E.length), (8, .int .i64 (j : Nat))] ∧ ss = [(3, some ⟨g, v, 2, [[.int .i64 x.1, .int .i64 x.2]]⟩)] ∧ (j ≤ E.length ∧ (E.take j).any (fun y => decide (x = y)) = false)) ?_ ?_
  · refine ⟨_, 0, ?_, ?_, rfl, ?henv, ?hstore, ?hst⟩
    case henv =>
      repeat' (first | rfl | refine env_cons ?_ ?_ | refine st_cons ?_ ?_ ?_ ?_ | refine int_eq ?_ | refine bool_eq ?_ | refine rsl_eq ?_ | refine osl_eq ?_ | refine sl_eq ?_ ?_ ?_ | refine ptr_eq ?_ ?_ ?_ | refine agg_eq ?_ | refine es_cons ?_ ?_ | refine row_cons ?_ ?_)
      all_goals (first | (simp; done) | omega | (simp; omega))
    case hstore =>
      repeat' (first | rfl | refine env_cons ?_ ?_ | refine st_cons ?_ ?_ ?_ ?_ | refine int_eq ?_ | refine bool_eq ?_ | refine rsl_eq ?_ | refine osl_eq ?_ | refine sl_eq ?_ ?_ ?_ | refine ptr_eq ?_ ?_ ?_ | refine agg_eq ?_ | refine es_cons ?_ ?_ | refine row_cons ?_ ?_)
      all_goals (first | (simp; done) | omega | (simp; omega))
    case hst =>
      exact ⟨by omega, by simp⟩
  rintro mm ee ss kk ⟨j, g, v, rfl, rfl, rfl, hI⟩
  generalize hQl1 : thenQ _ _ = Ql1
  obtain ⟨hj, hno⟩ := hI
  refine AW.seq fun K4 hK4 => ?_
  -- region 2
  refine AW.regionK 0 (fun _ => none) [0, 3, 7, 8, 9] [3] ?_
  simp only [go_sem, reduceIte, reduceCtorEq, Nat.reduceAdd, Nat.reduceMul, Nat.reduceEqDiff, Nat.reduceLT, Nat.reduceLeDiff, Nat.reduceSub, Nat.reducePow, Nat.reduceBEq, Int.reduceToNat, List.reduceReplicate, hpv]
  repeat with_reducible refine cj ?_ ?_
  all_goals try first | omega
  refine hK4 _ _ _ ?_; clear hK4
  refine AW.seq fun K5 hK5 => ?_
  -- cond 1
  refine AW.cond rfl (by simp only [go_sem, reduceIte, reduceCtorEq, Nat.reduceAdd, Nat.reduceMul, Nat.reduceEqDiff, Nat.reduceLT, Nat.reduceLeDiff, Nat.reduceSub, Nat.reducePow, Nat.reduceBEq, Int.reduceToNat, List.reduceReplicate]) ?_ ?_
  · intro hb
    try simp only [hB, decide_eq_true_eq, decide_eq_false_iff_not] at hb
    obtain ⟨e, he⟩ := getI (l := E) (j := j) (by omega)
    have hge := getV (f := pairV) he
    have hats := any_take_succ (p := fun y => decide (x = y)) he
    have hpd := pair_dec x e
    refine AW.skip ?_
    refine hK5 _ _ _ ?_; clear hK5
    refine AW.seq fun K6 hK6 => ?_
    refine AW.block ?_
    refine AW.seq fun K7 hK7 => ?_
    -- region 3
    refine AW.regionK 0 (fun _ => none) [0, 3, 5, 7, 8] [3] ?_
    simp only [go_sem, reduceIte, reduceCtorEq, Nat.reduceAdd, Nat.reduceMul, Nat.reduceEqDiff, Nat.reduceLT, Nat.reduceLeDiff, Nat.reduceSub, Nat.reducePow, Nat.reduceBEq, Int.reduceToNat, List.reduceReplicate, hpv]
    repeat with_reducible refine cj ?_ ?_
    all_goals try first | omega
    refine hK7 _ _ _ ?_; clear hK7
    refine AW.seq fun K8 hK8 => ?_
    -- region 4
    refine AW.regionD mixed 0 (fun _ => none) [0, 3, 5, 7, 8, 16] [3] ?_
    simp only [go_sem, reduceIte, reduceCtorEq, Nat.reduceAdd, Nat.reduceMul, Nat.reduceEqDiff, Nat.reduceLT, Nat.reduceLeDiff, Nat.reduceSub, Nat.reducePow, Nat.reduceBEq, Int.reduceToNat, List.reduceReplicate, hpv, hge, pairV, hpd]
    repeat with_reducible refine cj ?_ ?_
    all_goals try first | omega | exact chk (by kernel_rfl)
    refine hK8 _ _ _ ?_; clear hK8
    -- cond 2
    refine AW.cond rfl (by simp only [go_sem, reduceIte, reduceCtorEq, Nat.reduceAdd, Nat.reduceMul, Nat.reduceEqDiff, Nat.reduceLT, Nat.reduceLeDiff, Nat.reduceSub, Nat.reducePow, Nat.reduceBEq, Int.reduceToNat, List.reduceReplicate]) ?_ ?_
    · intro hb
      try simp only [hB, decide_eq_true_eq, decide_eq_false_iff_not] at hb
      refine AW.seq fun K9 hK9 => ?_
      -- region 5
      refine AW.regionK 0 (fun _ => none) [4] [] ?_
      simp only [go_sem, reduceIte, reduceCtorEq, Nat.reduceAdd, Nat.reduceMul, Nat.reduceEqDiff, Nat.reduceLT, Nat.reduceLeDiff, Nat.reduceSub, Nat.reducePow, Nat.reduceBEq, Int.reduceToNat, List.reduceReplicate, hpv]
      repeat with_reducible refine cj ?_ ?_
      all_goals try first | omega
      refine hK9 _ _ _ ?_; clear hK9
      refine AW.ret ?_
      rw [← hQl1]
      rw [← hQr]
      simp only [go_sem, reduceIte, reduceCtorEq, Nat.reduceAdd, Nat.reduceMul, Nat.reduceEqDiff, Nat.reduceLT, Nat.reduceLeDiff, Nat.reduceSub, Nat.reducePow, Nat.reduceBEq, Int.reduceToNat, List.reduceReplicate, hpv]
      exact Wk.of_eq (by rw [ixf_at he (by simpa using hb) hno])
    · intro hb
      try simp only [hB, decide_eq_true_eq, decide_eq_false_iff_not] at hb
      refine AW.skip ?_
      refine hK6 _ _ _ ?_; clear hK6
      -- region 6
      refine AW.regionK 0 (fun _ => none) [0, 3, 7, 8] [3] ?_
      simp only [go_sem, reduceIte, reduceCtorEq, Nat.reduceAdd, Nat.reduceMul, Nat.reduceEqDiff, Nat.reduceLT, Nat.reduceLeDiff, Nat.reduceSub, Nat.reducePow, Nat.reduceBEq, Int.reduceToNat, List.reduceReplicate, hpv]
      repeat with_reducible refine cj ?_ ?_
      all_goals try first | omega
      rw [← hQl1]
      change Exists _
      refine ⟨_, ?hm, j + 1, ?_, ?_, rfl, ?henv, ?hstore, ?hst⟩
      case henv =>
        repeat' (first | rfl | refine env_cons ?_ ?_ | refine st_cons ?_ ?_ ?_ ?_ | refine int_eq ?_ | refine bool_eq ?_ | refine rsl_eq ?_ | refine osl_eq ?_ | refine sl_eq ?_ ?_ ?_ | refine ptr_eq ?_ ?_ ?_ | refine agg_eq ?_ | refine es_cons ?_ ?_ | refine row_cons ?_ ?_)
        all_goals (first | (simp; done) | omega | (simp; omega))
      case hstore =>
        repeat' (first | rfl | refine env_cons ?_ ?_ | refine st_cons ?_ ?_ ?_ ?_ | refine int_eq ?_ | refine bool_eq ?_ | refine rsl_eq ?_ | refine osl_eq ?_ | refine sl_eq ?_ ?_ ?_ | refine ptr_eq ?_ ?_ ?_ | refine agg_eq ?_ | refine es_cons ?_ ?_ | refine row_cons ?_ ?_)
        all_goals (first | (simp; done) | omega | (simp; omega))
      case hst =>
        exact ⟨by omega, by rw [hats, hno]; simpa using hb⟩
      case hm => omega
  · intro hb
    try simp only [hB, decide_eq_true_eq, decide_eq_false_iff_not] at hb
    refine AW.keep [] [] ?_
    try simp only [go_sem, reduceIte, reduceCtorEq, Nat.reduceAdd, Nat.reduceMul, Nat.reduceEqDiff, Nat.reduceLT, Nat.reduceLeDiff, Nat.reduceSub, Nat.reducePow, Nat.reduceBEq, Int.reduceToNat, List.reduceReplicate]
    refine AW.exit ?_
    rw [← hQl1]
    refine hK2 _ _ _ ?_; clear hK2
    refine AW.seq fun K10 hK10 => ?_
    -- region 7
    refine AW.regionK 0 (fun _ => none) [4] [] ?_
    simp only [go_sem, reduceIte, reduceCtorEq, Nat.reduceAdd, Nat.reduceMul, Nat.reduceEqDiff, Nat.reduceLT, Nat.reduceLeDiff, Nat.reduceSub, Nat.reducePow, Nat.reduceBEq, Int.reduceToNat, List.reduceReplicate, hpv]
    repeat with_reducible refine cj ?_ ?_
    all_goals try first | omega
    refine hK10 _ _ _ ?_; clear hK10
    refine AW.ret ?_
    rw [← hQr]
    simp only [go_sem, reduceIte, reduceCtorEq, Nat.reduceAdd, Nat.reduceMul, Nat.reduceEqDiff, Nat.reduceLT, Nat.reduceLeDiff, Nat.reduceSub, Nat.reducePow, Nat.reduceBEq, Int.reduceToNat, List.reduceReplicate, hpv]
    exact Wk.of_eq (by rw [List.take_of_length_le (by omega)] at hno; rw [ixf_none hno])
theorem contains2_r (E : List (Int × Int)) (x : Int × Int) (hl : E.length ≤ 9223372036854775807) : Reads Try.prog 54 false [.rsl 2 (E.map pairV), .agg (pairV x)] (.bool (decide (x ∈ E))) := by
  have hi := index2_r E x hl
  have hg := ixf_ge (fun y => decide (x = y)) E
  unfold pairV at hi ⊢
  have hpv : (fun p : Int × Int => [AV.int .i64 p.1, AV.int .i64 p.2]) = pairV := rfl
  rw [hpv] at hi ⊢
  refine Reads.body (rs := [.tmp 4]) Try.func54 rfl Try.ntmps54 rfl (by simp) ?_
  generalize hQr : retQ _ _ _ = Qr
  refine AW.seq fun K1 hK1 => ?_
  -- region 0
  refine AW.regionK 0 (fun _ => none) [0, 3] [3] ?_
  simp only [go_sem, reduceIte, reduceCtorEq, Nat.reduceAdd, Nat.reduceMul, Nat.reduceEqDiff, Nat.reduceLT, Nat.reduceLeDiff, Nat.reduceSub, Nat.reducePow, Nat.reduceBEq, Int.reduceToNat, List.reduceReplicate]
  repeat with_reducible refine cj ?_ ?_
  all_goals try first | omega
  refine hK1 _ _ _ ?_; clear hK1
  refine AW.seq fun K2 hK2 => ?_
  -- region 1
  refine AW.regionK 0 (fun ii => if ii = 2 then some (.reads false (.int .i64 (ixf (fun y => decide (x = y)) E))) else none) [4] [] ?_
  simp only [go_sem, reduceIte, reduceCtorEq, Nat.reduceAdd, Nat.reduceMul, Nat.reduceEqDiff, Nat.reduceLT, Nat.reduceLeDiff, Nat.reduceSub, Nat.reducePow, Nat.reduceBEq, Int.reduceToNat, List.reduceReplicate]
  repeat with_reducible refine cj ?_ ?_
  all_goals try first | (exact hi) | omega | exact ent (by kernel_rfl)
  refine hK2 _ _ _ ?_; clear hK2
  refine AW.ret ?_
  rw [← hQr]
  simp only [go_sem, reduceIte, reduceCtorEq, Nat.reduceAdd, Nat.reduceMul, Nat.reduceEqDiff, Nat.reduceLT, Nat.reduceLeDiff, Nat.reduceSub, Nat.reducePow, Nat.reduceBEq, Int.reduceToNat, List.reduceReplicate]
  exact Wk.of_eq (by rw [hg]; congr 1; rw [List.any_eq, decide_eq_decide]; simp)
end Go.Proofs.M

namespace Go.Proofs.M
open Go.AM Go
set_option maxRecDepth 100000
set_option maxHeartbeats 2000000
theorem ints_gi {l : List Int} {i : Nat} (h : i < l.length) : (ints l).getD i [] = [.int .i64 (gi l i)] := by rw [ints_getD h, gi_eq h]
theorem plc_len (n m : Nat) (P : List (Int × Int)) : (plc n m P).1.length = n ∧ (plc n m P).2.length = m := by
  unfold plc
  have : ∀ (P : List (Int × Int)) (x : List Int × List Int), x.1.length = n ∧ x.2.length = m → (P.foldl pstep x).1.length = n ∧ (P.foldl pstep x).2.length = m := by
    intro P
    induction P with
    | nil => intro x h; exact h
    | cons p P ih => intro x h; rw [List.foldl_cons]; exact ih _ (by simpa [pstep] using h)
  exact this P _ (by simp)
theorem placed_good {n m : Nat} {E : List (Int × Int)} (h : Gd n m E) (P : List (Int × Int)) (hlP : P.length ≤ 9223372036854775807) (hmat : isMat E P = true) :
    Upd Try.prog 40 [] [.int .i64 n, .int .i64 m, .rsl 2 (E.map pairV), .rsl 2 (P.map pairV)] (fun k => .tup [.ptr ⟨0, k, none⟩ 0 0, .bool true]) (fun k => graphS n m (nbOf n E) (plc n m P).1 (plc n m P).2 k k k k k k) := by
  have hn := h.hn
  have hm := h.hm
  have hE := h.hE
  have hl := h.hl
  have hmd := made_u hn hm hE hl
  have hb1 := nbOf_len n E
  generalize hnb : nbOf n E = nb at *
  refine Upd.of_body (rs := [.tmp 8, .tmp 9]) Try.func40 rfl Try.ntmps40 rfl (by simp) ?_
  intro k0 k hk0 hk1
  generalize hQr : retQ _ _ _ = Qr
  refine AW.seq fun K1 hK1 => ?_
  -- region 0
  refine AW.regionK 100 (fun _ => none) [0, 1, 2, 3] [116, 1116, 2116] ?_
  simp only [go_sem, reduceIte, reduceCtorEq, Nat.reduceAdd, Nat.reduceMul, Nat.reduceEqDiff, Nat.reduceLT, Nat.reduceLeDiff, Nat.reduceSub, Nat.reducePow, Nat.reduceBEq, Int.reduceToNat, List.reduceReplicate, graphS, ints_len]
  repeat with_reducible refine cj ?_ ?_
  all_goals try first | omega
  refine hK1 _ _ _ ?_; clear hK1
  refine AW.seq fun K2 hK2 => ?_
  -- region 1
  refine AW.regionK 100 (fun ii => if ii = 3 then some (.upd [] (fun k => graphS n m nb (List.replicate n (-1)) (List.replicate m (-1)) k k k k k k) (fun k => .ptr ⟨0, k, none⟩ 0 0)) else none) [2, 3, 10] [116, 1116, 2116] ?_
  simp only [go_sem, reduceIte, reduceCtorEq, Nat.reduceAdd, Nat.reduceMul, Nat.reduceEqDiff, Nat.reduceLT, Nat.reduceLeDiff, Nat.reduceSub, Nat.reducePow, Nat.reduceBEq, Int.reduceToNat, List.reduceReplicate, graphS, ints_len]
  repeat with_reducible refine cj ?_ ?_
  all_goals try first | ((unfold graphS at hmd; exact hmd)) | omega | exact ent (by kernel_rfl)
  refine hK2 _ _ _ ?_; clear hK2
  refine AW.seq fun K3 hK3 => ?_
  refine AW.seq fun K4 hK4 => ?_
  -- region 2
  refine AW.regionK 100 (fun _ => none) [2, 10, 17, 18, 19] [116, 1116, 2116] ?_
  simp only [go_sem, reduceIte, reduceCtorEq, Nat.reduceAdd, Nat.reduceMul, Nat.reduceEqDiff, Nat.reduceLT, Nat.reduceLeDiff, Nat.reduceSub, Nat.reducePow, Nat.reduceBEq, Int.reduceToNat, List.reduceReplicate, graphS, ints_len]
  repeat with_reducible refine cj ?_ ?_
  all_goals try first | omega
  refine hK4 _ _ _ ?_; clear hK4
  refine AW.block ?_
  -- loop 1
  refine AW.loopE (fun mm ee ss kk => ∃ (j g0 v0 g1 v1 g2 v2 : Nat), P.length - j = mm ∧ ee = [(2, .rsl 2 (E.map pairV)), (10, .ptr ⟨116, g0, none⟩ 0 0), (17, .rsl 2 (P.map pairV)), (18, .int .i64 P.length), (19, .int .i64 (j : Nat))] ∧ ss = [(116, some ⟨g0, v0, 3, [[.rsl 1 (nbR nb), .sl ⟨1116, g1, none⟩ 0 n none, .sl ⟨2116, g2, none⟩ 0 m none]]⟩), (1116, some ⟨g1, v1, 1, ints (plc n m (P.take j)).1⟩), (2116, some ⟨g2, v2, 1, ints (plc n m (P.take j)).2⟩)] ∧ (j ≤ P.length ∧ PlI n m E (P.take j) (plc n m (P.take j)))) ?_ ?_
  · refine ⟨_, 0, ?_, ?_, ?_, ?_, ?_, ?_, rfl, ?henv, ?hstore, ?hst⟩
    case henv =>
      repeat' (first | rfl | refine env_cons ?_ ?_ | refine st_cons ?_ ?_ ?_ ?_ | refine int_eq ?_ | refine bool_eq ?_ | refine rsl_eq ?_ | refine osl_eq ?_ | refine sl_eq ?_ ?_ ?_ | refine ptr_eq ?_ ?_ ?_ | refine agg_eq ?_ | refine es_cons ?_ ?_ | refine row_cons ?_ ?_)
      all_goals (first | (simp; done) | omega | (simp; omega))
    case hstore =>
      repeat' (first | rfl | refine env_cons ?_ ?_ | refine st_cons ?_ ?_ ?_ ?_ | refine int_eq ?_ | refine bool_eq ?_ | refine rsl_eq ?_ | refine osl_eq ?_ | refine sl_eq ?_ ?_ ?_ | refine ptr_eq ?_ ?_ ?_ | refine agg_eq ?_ | refine es_cons ?_ ?_ | refine row_cons ?_ ?_)
      all_goals (first | (simp; done) | omega | (simp; omega))
    case hst =>
      exact ⟨by omega, plI_nil n m E⟩
  rintro mm ee ss kk ⟨j, g0, v0, g1, v1, g2, v2, rfl, rfl, rfl, hI⟩
  generalize hQl1 : thenQ _ _ = Ql1
  obtain ⟨hj, hI⟩ := hI
  have hL := (plc_len n m (P.take j)).1
  have hR := (plc_len n m (P.take j)).2
  refine AW.seq fun K5 hK5 => ?_
  -- region 3
  refine AW.regionK 100 (fun _ => none) [2, 10, 17, 18, 19, 20] [116, 1116, 2116] ?_
  simp only [go_sem, reduceIte, reduceCtorEq, Nat.reduceAdd, Nat.reduceMul, Nat.reduceEqDiff, Nat.reduceLT, Nat.reduceLeDiff, Nat.reduceSub, Nat.reducePow, Nat.reduceBEq, Int.reduceToNat, List.reduceReplicate, graphS, ints_len]
  repeat with_reducible refine cj ?_ ?_
  all_goals try first | omega
  refine hK5 _ _ _ ?_; clear hK5
  refine AW.seq fun K6 hK6 => ?_
  -- cond 1
  refine AW.cond rfl (by simp only [go_sem, reduceIte, reduceCtorEq, Nat.reduceAdd, Nat.reduceMul, Nat.reduceEqDiff, Nat.reduceLT, Nat.reduceLeDiff, Nat.reduceSub, Nat.reducePow, Nat.reduceBEq, Int.reduceToNat, List.reduceReplicate]) ?_ ?_
  · intro hb
    try simp only [hB, decide_eq_true_eq, decide_eq_false_iff_not] at hb
    obtain ⟨p, hp⟩ := getI (l := P) (j := j) (by omega)
    have hgp := getV (f := pairV) hp
    have hha := contains2_r E p (by omega)
    unfold pairV at hha
    have hpv : (fun p : Int × Int => [AV.int .i64 p.1, AV.int .i64 p.2]) = pairV := rfl
    rw [hpv] at hha
    have hts : P.take (j + 1) = P.take j ++ [p] := by rw [List.take_add_one, hp]; rfl
    have hps := plc_succ n m hp
    have hbad := hI.bad hE hp
    have hsnoc := fun h => plI_snoc hE hI (p := p) h
    generalize plc n m (P.take j) = x at *
    obtain ⟨L, R⟩ := x
    simp only at hL hR hps hbad hsnoc
    rw [hmat] at hbad
    have hpe : p ∈ E := Decidable.byContradiction fun h => by cases hbad (.inl h)
    have hl0 : gi L p.1.toNat < 0 := by by_cases h : 0 ≤ gi L p.1.toNat; cases hbad (.inr (.inl h)); omega
    have hr0 : gi R p.2.toNat < 0 := by by_cases h : 0 ≤ gi R p.2.toNat; cases hbad (.inr (.inr h)); omega
    have hr := edgeIn_iff.1 (hE p hpe)
    have hgA := ints_gi (l := L) (i := p.1.toNat) (by omega)
    have hgB := ints_gi (l := R) (i := p.2.toNat) (by omega)
    have hdp : decide (p ∈ E) = true := decide_eq_true hpe
    rw [hdp] at hha
    have hju := join_u n m (nbR nb) L R hL hR hn hm p.1 p.2 ⟨hr.1, hr.2.1⟩ ⟨hr.2.2.1, hr.2.2.2⟩ g0 v0 g1 v1 g2 v2
    have hsn := hsnoc hpe hl0 hr0
    rw [← hps, ← hts] at hsn
    rw [show L.set p.1.toNat p.2 = (plc n m (P.take (j + 1))).1 by rw [hps], show R.set p.2.toNat p.1 = (plc n m (P.take (j + 1))).2 by rw [hps]] at hju
    refine AW.skip ?_
    refine hK6 _ _ _ ?_; clear hK6
    refine AW.seq fun K7 hK7 => ?_
    refine AW.block ?_
    refine AW.seq fun K8 hK8 => ?_
    -- region 4
    refine AW.regionK 100 (fun _ => none) [2, 10, 12, 17, 18, 19] [112, 116, 1116, 2116] ?_
    simp only [go_sem, reduceIte, reduceCtorEq, Nat.reduceAdd, Nat.reduceMul, Nat.reduceEqDiff, Nat.reduceLT, Nat.reduceLeDiff, Nat.reduceSub, Nat.reducePow, Nat.reduceBEq, Int.reduceToNat, List.reduceReplicate, graphS, ints_len, hgp, pairV]
    repeat with_reducible refine cj ?_ ?_
    all_goals try first | omega
    refine hK8 _ _ _ ?_; clear hK8
    refine AW.seq fun K9 hK9 => ?_
    refine AW.seq fun K10 hK10 => ?_
    -- region 5
    refine AW.regionD mixed 100 (fun ii => if ii = 2 then some (.reads false (.bool true)) else none) [2, 10, 12, 17, 18, 19, 48] [112, 116, 1116, 2116] ?_
    simp only [go_sem, reduceIte, reduceCtorEq, Nat.reduceAdd, Nat.reduceMul, Nat.reduceEqDiff, Nat.reduceLT, Nat.reduceLeDiff, Nat.reduceSub, Nat.reducePow, Nat.reduceBEq, Int.reduceToNat, List.reduceReplicate, graphS, ints_len, hL, hR, hgA, hgB]
    repeat with_reducible refine cj ?_ ?_
    all_goals try first | (first | exact hha | (intro _; exact ⟨by omega, by omega⟩) | (intros; (repeat' apply And.intro) <;> first | omega | trivial)) | (intros; (repeat' apply And.intro) <;> first | assumption | (first | exact hha | (intro _; exact ⟨by omega, by omega⟩) | (intros; (repeat' apply And.intro) <;> first | omega | trivial))) | omega | exact chk (by kernel_rfl) | exact ent (by kernel_rfl) | (intro hgd; exact absurd hgd (by decide)) | rfl | (simp only [go_sem, reduceIte, reduceCtorEq, Nat.reduceAdd, Nat.reduceMul, Nat.reduceEqDiff, Nat.reduceLT, Nat.reduceLeDiff, Nat.reduceSub, Nat.reducePow, Nat.reduceBEq, Int.reduceToNat, List.reduceReplicate, graphS, ints_len, hL, hR, hgA, hgB]; done) | (intro _hgd; simp_all [go_sem]; done)
    refine hK10 _ _ _ ?_; clear hK10
    -- cond 2
    refine AW.cond rfl (by simp only [go_sem, reduceIte, reduceCtorEq, Nat.reduceAdd, Nat.reduceMul, Nat.reduceEqDiff, Nat.reduceLT, Nat.reduceLeDiff, Nat.reduceSub, Nat.reducePow, Nat.reduceBEq, Int.reduceToNat, List.reduceReplicate]) ?_ ?_
    · intro hb
      try simp only [hB, decide_eq_true_eq, decide_eq_false_iff_not] at hb
      exfalso; revert hb; simp; omega
    · intro hb
      try simp only [hB, decide_eq_true_eq, decide_eq_false_iff_not] at hb
      refine AW.skip ?_
      refine hK9 _ _ _ ?_; clear hK9
      -- region 7
      refine AW.regionK 100 (fun ii => if ii = 5 then some (.upd [116, 1116, 2116] (fun k => [(0, some ⟨g0, k, 3, [[.rsl 1 (nbR nb), .sl ⟨1, g1, none⟩ 0 n none, .sl ⟨2, g2, none⟩ 0 m none]]⟩), (1, some ⟨g1, k, 1, ints (plc n m (P.take (j + 1))).1⟩), (2, some ⟨g2, k, 1, ints (plc n m (P.take (j + 1))).2⟩)]) (fun _ => .tup [])) else none) [2, 10, 17, 18, 19] [116, 1116, 2116] ?_
      simp only [go_sem, reduceIte, reduceCtorEq, Nat.reduceAdd, Nat.reduceMul, Nat.reduceEqDiff, Nat.reduceLT, Nat.reduceLeDiff, Nat.reduceSub, Nat.reducePow, Nat.reduceBEq, Int.reduceToNat, List.reduceReplicate, graphS, ints_len, hL, hR]
      repeat with_reducible refine cj ?_ ?_
      all_goals try first | (exact hju) | omega | exact ent (by kernel_rfl)
      refine hK7 _ _ _ ?_; clear hK7
      -- region 8
      refine AW.regionK 100 (fun _ => none) [2, 10, 17, 18, 19] [116, 1116, 2116] ?_
      simp only [go_sem, reduceIte, reduceCtorEq, Nat.reduceAdd, Nat.reduceMul, Nat.reduceEqDiff, Nat.reduceLT, Nat.reduceLeDiff, Nat.reduceSub, Nat.reducePow, Nat.reduceBEq, Int.reduceToNat, List.reduceReplicate, graphS, ints_len]
      repeat with_reducible refine cj ?_ ?_
      all_goals try first | omega
      rw [← hQl1]
      change Exists _
      refine ⟨_, ?hm, j + 1, ?_, ?_, ?_, ?_, ?_, ?_, rfl, ?henv, ?hstore, ?hst⟩
      case henv =>
        repeat' (first | rfl | refine env_cons ?_ ?_ | refine st_cons ?_ ?_ ?_ ?_ | refine int_eq ?_ | refine bool_eq ?_ | refine rsl_eq ?_ | refine osl_eq ?_ | refine sl_eq ?_ ?_ ?_ | refine ptr_eq ?_ ?_ ?_ | refine agg_eq ?_ | refine es_cons ?_ ?_ | refine row_cons ?_ ?_)
        all_goals (first | (simp; done) | omega | (simp; omega))
      case hstore =>
        repeat' (first | rfl | refine env_cons ?_ ?_ | refine st_cons ?_ ?_ ?_ ?_ | refine int_eq ?_ | refine bool_eq ?_ | refine rsl_eq ?_ | refine osl_eq ?_ | refine sl_eq ?_ ?_ ?_ | refine ptr_eq ?_ ?_ ?_ | refine agg_eq ?_ | refine es_cons ?_ ?_ | refine row_cons ?_ ?_)
        all_goals (first | (simp; done) | omega | (simp; omega))
      case hst =>
        exact ⟨by omega, hsn⟩
      case hm => omega
  · intro hb
    try simp only [hB, decide_eq_true_eq, decide_eq_false_iff_not] at hb
    have hj2 : j = P.length := by omega
    subst hj2
    rw [List.take_length]
    refine AW.keep [10] [116, 1116, 2116] ?_
    try simp only [go_sem, reduceIte, reduceCtorEq, Nat.reduceAdd, Nat.reduceMul, Nat.reduceEqDiff, Nat.reduceLT, Nat.reduceLeDiff, Nat.reduceSub, Nat.reducePow, Nat.reduceBEq, Int.reduceToNat, List.reduceReplicate]
    refine AW.exit ?_
    rw [← hQl1]
    refine hK3 _ _ _ ?_; clear hK3
    refine AW.seq fun K11 hK11 => ?_
    -- region 9
    refine AW.regionK 100 (fun _ => none) [8, 9] [116, 1116, 2116] ?_
    simp only [go_sem, reduceIte, reduceCtorEq, Nat.reduceAdd, Nat.reduceMul, Nat.reduceEqDiff, Nat.reduceLT, Nat.reduceLeDiff, Nat.reduceSub, Nat.reducePow, Nat.reduceBEq, Int.reduceToNat, List.reduceReplicate, graphS, ints_len]
    repeat with_reducible refine cj ?_ ?_
    all_goals try first | omega
    refine hK11 _ _ _ ?_; clear hK11
    refine AW.ret ?_
    rw [← hQr]
    simp only [go_sem, reduceIte, reduceCtorEq, Nat.reduceAdd, Nat.reduceMul, Nat.reduceEqDiff, Nat.reduceLT, Nat.reduceLeDiff, Nat.reduceSub, Nat.reducePow, Nat.reduceBEq, Int.reduceToNat, List.reduceReplicate, graphS, ints_len]
    refine ⟨[(116, 0, true), (1116, 1, true), (2116, 2, true)], ?_⟩
    simp only [go_sem, reduceIte, Nat.reduceEqDiff, renC_ints, graphS]
    first | rfl | exact ⟨rfl, rfl⟩
end Go.Proofs.M

namespace Go.Proofs.M
open Go.AM Go
set_option maxRecDepth 100000
set_option maxHeartbeats 2000000
end Go.Proofs.M

namespace Go.Proofs.M
open Go.AM Go
set_option maxRecDepth 100000
set_option maxHeartbeats 2000000
end Go.Proofs.M

namespace Go.Proofs.M
open Go.AM Go
set_option maxRecDepth 100000
set_option maxHeartbeats 2000000
theorem Gd.rchS {n m : Nat} {E : List (Int × Int)} (h : Gd n m E) : Rch n m E (maxLR (nbOf n E) n m n).1 (maxLR (nbOf n E) n m n).2 (fun i => (refM n m E).1.getD i false) (fun i => (refM n m E).2.getD i false) :=
  ⟨h.max.1, h.max.2, h.hE, h.ref.2.2.1, h.ref.2.2.2⟩
theorem maxP_cnt {n m : Nat} {E : List (Int × Int)} (h : Gd n m E) : (maxP n m E).length = cnt (pL (maxLR (nbOf n E) n m n).1) n := prsL_len h.max.1.hL
theorem kon_most {n m : Nat} {E P : List (Int × Int)} (h : Gd n m E) (hP : isMat E P = true) : P.length ≤ (maxP n m E).length := by
  rw [maxP_cnt h]; exact h.rchS.most hP
end Go.Proofs.M

/- Masks of left nodes, and their deficiencies. -/
namespace Go.AM
structure LIv (d : Nat → Int) (n K : Nat) (x : Int × Nat) : Prop where
  h0 : 0 ≤ x.1
  h1 : ∀ k, k < K → d k ≤ x.1
  h2 : x.1 = 0 ∨ ∃ k, k < K ∧ d k = x.1
  h3 : x.2 < 2 ^ n
  h4 : 0 < x.1 → ∀ i, x.2.testBit i = true ↔ ∀ k, k < K → d k = x.1 → k.testBit i = true
end Go.AM

namespace Go.Proofs.M
open Go.AM Go
set_option maxRecDepth 100000
set_option maxHeartbeats 2000000
end Go.Proofs.M

namespace Go.Proofs.M
open Go.AM Go
set_option maxRecDepth 100000
set_option maxHeartbeats 2000000
def cmpI (a b : Int) : Int := if a < b then -1 else if b < a then 1 else 0
theorem nan_r (a : Int) : Reads Try.prog 60 false [.int .i64 a] (.bool false) := by
  refine Reads.body (rs := [.tmp 2]) Try.func60 rfl Try.ntmps60 rfl (by simp) ?_
  generalize hQr : retQ _ _ _ = Qr
  refine AW.seq fun K1 hK1 => ?_
  -- region 0
  refine AW.regionK 0 (fun _ => none) [0] [] ?_
  simp only [go_sem, reduceIte, reduceCtorEq, Nat.reduceAdd, Nat.reduceMul, Nat.reduceEqDiff, Nat.reduceLT, Nat.reduceLeDiff, Nat.reduceSub, Nat.reducePow, Nat.reduceBEq, Int.reduceToNat, List.reduceReplicate]
  repeat with_reducible refine cj ?_ ?_
  all_goals try first | omega
  refine hK1 _ _ _ ?_; clear hK1
  refine AW.seq fun K2 hK2 => ?_
  -- region 1
  refine AW.regionK 0 (fun _ => none) [2] [] ?_
  simp only [go_sem, reduceIte, reduceCtorEq, Nat.reduceAdd, Nat.reduceMul, Nat.reduceEqDiff, Nat.reduceLT, Nat.reduceLeDiff, Nat.reduceSub, Nat.reducePow, Nat.reduceBEq, Int.reduceToNat, List.reduceReplicate]
  repeat with_reducible refine cj ?_ ?_
  all_goals try first | omega
  refine hK2 _ _ _ ?_; clear hK2
  refine AW.ret ?_
  rw [← hQr]
  simp only [go_sem, reduceIte, reduceCtorEq, Nat.reduceAdd, Nat.reduceMul, Nat.reduceEqDiff, Nat.reduceLT, Nat.reduceLeDiff, Nat.reduceSub, Nat.reducePow, Nat.reduceBEq, Int.reduceToNat, List.reduceReplicate]
  exact Wk.of_eq (by simp)
theorem compare_r (a b : Int) : Reads Try.prog 46 false [.int .i64 a, .int .i64 b] (.int .i64 (cmpI a b)) := by
  have h1 := nan_r a
  have h2 := nan_r b
  refine Reads.body (rs := [.tmp 4]) Try.func46 rfl Try.ntmps46 rfl (by simp) ?_
  generalize hQr : retQ _ _ _ = Qr
  refine AW.seq fun K1 hK1 => ?_
  -- region 0
  refine AW.regionK 0 (fun _ => none) [0, 1] [] ?_
  simp only [go_sem, reduceIte, reduceCtorEq, Nat.reduceAdd, Nat.reduceMul, Nat.reduceEqDiff, Nat.reduceLT, Nat.reduceLeDiff, Nat.reduceSub, Nat.reducePow, Nat.reduceBEq, Int.reduceToNat, List.reduceReplicate]
  repeat with_reducible refine cj ?_ ?_
  all_goals try first | omega
  refine hK1 _ _ _ ?_; clear hK1
  refine AW.seq fun K2 hK2 => ?_
  -- region 1
  refine AW.regionK 0 (fun ii => if ii = 1 then some (.reads false (.bool false)) else none) [0, 1, 5] [] ?_
  simp only [go_sem, reduceIte, reduceCtorEq, Nat.reduceAdd, Nat.reduceMul, Nat.reduceEqDiff, Nat.reduceLT, Nat.reduceLeDiff, Nat.reduceSub, Nat.reducePow, Nat.reduceBEq, Int.reduceToNat, List.reduceReplicate]
  repeat with_reducible refine cj ?_ ?_
  all_goals try first | (exact h1) | omega | exact ent (by kernel_rfl)
  refine hK2 _ _ _ ?_; clear hK2
  refine AW.seq fun K3 hK3 => ?_
  -- region 2
  refine AW.regionK 0 (fun ii => if ii = 1 then some (.reads false (.bool false)) else none) [0, 1, 5, 6] [] ?_
  simp only [go_sem, reduceIte, reduceCtorEq, Nat.reduceAdd, Nat.reduceMul, Nat.reduceEqDiff, Nat.reduceLT, Nat.reduceLeDiff, Nat.reduceSub, Nat.reducePow, Nat.reduceBEq, Int.reduceToNat, List.reduceReplicate]
  repeat with_reducible refine cj ?_ ?_
  all_goals try first | (exact h2) | omega | exact ent (by kernel_rfl)
  refine hK3 _ _ _ ?_; clear hK3
  refine AW.seq fun K4 hK4 => ?_
  refine AW.seq fun K5 hK5 => ?_
  -- region 3
  refine AW.regionK 0 (fun _ => none) [0, 1, 6, 11] [] ?_
  simp only [go_sem, reduceIte, reduceCtorEq, Nat.reduceAdd, Nat.reduceMul, Nat.reduceEqDiff, Nat.reduceLT, Nat.reduceLeDiff, Nat.reduceSub, Nat.reducePow, Nat.reduceBEq, Int.reduceToNat, List.reduceReplicate]
  repeat with_reducible refine cj ?_ ?_
  all_goals try first | omega
  refine hK5 _ _ _ ?_; clear hK5
  -- cond 1
  refine AW.cond rfl (by simp only [go_sem, reduceIte, reduceCtorEq, Nat.reduceAdd, Nat.reduceMul, Nat.reduceEqDiff, Nat.reduceLT, Nat.reduceLeDiff, Nat.reduceSub, Nat.reducePow, Nat.reduceBEq, Int.reduceToNat, List.reduceReplicate]) ?_ ?_
  · intro hb
    try simp only [hB, decide_eq_true_eq, decide_eq_false_iff_not] at hb
    exfalso; simp at hb
  · intro hb
    try simp only [hB, decide_eq_true_eq, decide_eq_false_iff_not] at hb
    refine AW.skip ?_
    refine hK4 _ _ _ ?_; clear hK4
    refine AW.seq fun K6 hK6 => ?_
    refine AW.seq fun K7 hK7 => ?_
    -- region 7
    refine AW.regionK 0 (fun _ => none) [0, 1, 13] [] ?_
    simp only [go_sem, reduceIte, reduceCtorEq, Nat.reduceAdd, Nat.reduceMul, Nat.reduceEqDiff, Nat.reduceLT, Nat.reduceLeDiff, Nat.reduceSub, Nat.reducePow, Nat.reduceBEq, Int.reduceToNat, List.reduceReplicate]
    repeat with_reducible refine cj ?_ ?_
    all_goals try first | omega
    refine hK7 _ _ _ ?_; clear hK7
    -- cond 3
    refine AW.cond rfl (by simp only [go_sem, reduceIte, reduceCtorEq, Nat.reduceAdd, Nat.reduceMul, Nat.reduceEqDiff, Nat.reduceLT, Nat.reduceLeDiff, Nat.reduceSub, Nat.reducePow, Nat.reduceBEq, Int.reduceToNat, List.reduceReplicate]) ?_ ?_
    · intro hb
      try simp only [hB, decide_eq_true_eq, decide_eq_false_iff_not] at hb
      exfalso; simp at hb
    · intro hb
      try simp only [hB, decide_eq_true_eq, decide_eq_false_iff_not] at hb
      refine AW.skip ?_
      refine hK6 _ _ _ ?_; clear hK6
      refine AW.seq fun K8 hK8 => ?_
      refine AW.seq fun K9 hK9 => ?_
      -- region 9
      refine AW.regionK 0 (fun _ => none) [0, 1, 16] [] ?_
      simp only [go_sem, reduceIte, reduceCtorEq, Nat.reduceAdd, Nat.reduceMul, Nat.reduceEqDiff, Nat.reduceLT, Nat.reduceLeDiff, Nat.reduceSub, Nat.reducePow, Nat.reduceBEq, Int.reduceToNat, List.reduceReplicate]
      repeat with_reducible refine cj ?_ ?_
      all_goals try first | omega
      refine hK9 _ _ _ ?_; clear hK9
      -- cond 4
      refine AW.cond rfl (by simp only [go_sem, reduceIte, reduceCtorEq, Nat.reduceAdd, Nat.reduceMul, Nat.reduceEqDiff, Nat.reduceLT, Nat.reduceLeDiff, Nat.reduceSub, Nat.reducePow, Nat.reduceBEq, Int.reduceToNat, List.reduceReplicate]) ?_ ?_
      · intro hb
        try simp only [hB, decide_eq_true_eq, decide_eq_false_iff_not] at hb
        refine AW.seq fun K10 hK10 => ?_
        -- region 10
        refine AW.regionK 0 (fun _ => none) [4] [] ?_
        simp only [go_sem, reduceIte, reduceCtorEq, Nat.reduceAdd, Nat.reduceMul, Nat.reduceEqDiff, Nat.reduceLT, Nat.reduceLeDiff, Nat.reduceSub, Nat.reducePow, Nat.reduceBEq, Int.reduceToNat, List.reduceReplicate]
        repeat with_reducible refine cj ?_ ?_
        all_goals try first | omega
        refine hK10 _ _ _ ?_; clear hK10
        refine AW.ret ?_
        rw [← hQr]
        simp only [go_sem, reduceIte, reduceCtorEq, Nat.reduceAdd, Nat.reduceMul, Nat.reduceEqDiff, Nat.reduceLT, Nat.reduceLeDiff, Nat.reduceSub, Nat.reducePow, Nat.reduceBEq, Int.reduceToNat, List.reduceReplicate]
        exact Wk.of_eq (by unfold cmpI; rw [if_pos hb])
      · intro hb
        try simp only [hB, decide_eq_true_eq, decide_eq_false_iff_not] at hb
        refine AW.skip ?_
        refine hK8 _ _ _ ?_; clear hK8
        refine AW.seq fun K11 hK11 => ?_
        refine AW.seq fun K12 hK12 => ?_
        -- region 11
        refine AW.regionK 0 (fun _ => none) [19] [] ?_
        simp only [go_sem, reduceIte, reduceCtorEq, Nat.reduceAdd, Nat.reduceMul, Nat.reduceEqDiff, Nat.reduceLT, Nat.reduceLeDiff, Nat.reduceSub, Nat.reducePow, Nat.reduceBEq, Int.reduceToNat, List.reduceReplicate]
        repeat with_reducible refine cj ?_ ?_
        all_goals try first | omega
        refine hK12 _ _ _ ?_; clear hK12
        -- cond 5
        refine AW.cond rfl (by simp only [go_sem, reduceIte, reduceCtorEq, Nat.reduceAdd, Nat.reduceMul, Nat.reduceEqDiff, Nat.reduceLT, Nat.reduceLeDiff, Nat.reduceSub, Nat.reducePow, Nat.reduceBEq, Int.reduceToNat, List.reduceReplicate]) ?_ ?_
        · intro hb
          try simp only [hB, decide_eq_true_eq, decide_eq_false_iff_not] at hb
          refine AW.seq fun K13 hK13 => ?_
          -- region 12
          refine AW.regionK 0 (fun _ => none) [4] [] ?_
          simp only [go_sem, reduceIte, reduceCtorEq, Nat.reduceAdd, Nat.reduceMul, Nat.reduceEqDiff, Nat.reduceLT, Nat.reduceLeDiff, Nat.reduceSub, Nat.reducePow, Nat.reduceBEq, Int.reduceToNat, List.reduceReplicate]
          repeat with_reducible refine cj ?_ ?_
          all_goals try first | omega
          refine hK13 _ _ _ ?_; clear hK13
          refine AW.ret ?_
          rw [← hQr]
          simp only [go_sem, reduceIte, reduceCtorEq, Nat.reduceAdd, Nat.reduceMul, Nat.reduceEqDiff, Nat.reduceLT, Nat.reduceLeDiff, Nat.reduceSub, Nat.reducePow, Nat.reduceBEq, Int.reduceToNat, List.reduceReplicate]
          exact Wk.of_eq (by unfold cmpI; rw [if_neg (by omega), if_pos (by omega)])
        · intro hb
          try simp only [hB, decide_eq_true_eq, decide_eq_false_iff_not] at hb
          refine AW.skip ?_
          refine hK11 _ _ _ ?_; clear hK11
          refine AW.seq fun K14 hK14 => ?_
          -- region 13
          refine AW.regionK 0 (fun _ => none) [4] [] ?_
          simp only [go_sem, reduceIte, reduceCtorEq, Nat.reduceAdd, Nat.reduceMul, Nat.reduceEqDiff, Nat.reduceLT, Nat.reduceLeDiff, Nat.reduceSub, Nat.reducePow, Nat.reduceBEq, Int.reduceToNat, List.reduceReplicate]
          repeat with_reducible refine cj ?_ ?_
          all_goals try first | omega
          refine hK14 _ _ _ ?_; clear hK14
          refine AW.ret ?_
          rw [← hQr]
          simp only [go_sem, reduceIte, reduceCtorEq, Nat.reduceAdd, Nat.reduceMul, Nat.reduceEqDiff, Nat.reduceLT, Nat.reduceLeDiff, Nat.reduceSub, Nat.reducePow, Nat.reduceBEq, Int.reduceToNat, List.reduceReplicate]
          exact Wk.of_eq (by unfold cmpI; rw [if_neg (by omega), if_neg (by omega)])
theorem acmp_r (p q : Int × Int) : Reads Try.prog 45 false [.agg (pairV p), .agg (pairV q)] (.int .i64 (cmpI p.1 q.1)) := by
  have h := compare_r p.1 q.1
  unfold pairV
  refine Reads.body (rs := [.tmp 4]) Try.func45 rfl Try.ntmps45 rfl (by simp) ?_
  generalize hQr : retQ _ _ _ = Qr
  refine AW.seq fun K1 hK1 => ?_
  -- region 0
  refine AW.regionK 0 (fun _ => none) [2, 3] [2, 3] ?_
  simp only [go_sem, reduceIte, reduceCtorEq, Nat.reduceAdd, Nat.reduceMul, Nat.reduceEqDiff, Nat.reduceLT, Nat.reduceLeDiff, Nat.reduceSub, Nat.reducePow, Nat.reduceBEq, Int.reduceToNat, List.reduceReplicate]
  repeat with_reducible refine cj ?_ ?_
  all_goals try first | omega
  refine hK1 _ _ _ ?_; clear hK1
  refine AW.seq fun K2 hK2 => ?_
  -- region 1
  refine AW.regionK 0 (fun ii => if ii = 4 then some (.reads false (.int .i64 (cmpI p.1 q.1))) else none) [4] [] ?_
  simp only [go_sem, reduceIte, reduceCtorEq, Nat.reduceAdd, Nat.reduceMul, Nat.reduceEqDiff, Nat.reduceLT, Nat.reduceLeDiff, Nat.reduceSub, Nat.reducePow, Nat.reduceBEq, Int.reduceToNat, List.reduceReplicate]
  repeat with_reducible refine cj ?_ ?_
  all_goals try first | (exact h) | omega | exact ent (by kernel_rfl)
  refine hK2 _ _ _ ?_; clear hK2
  refine AW.ret ?_
  rw [← hQr]
  simp only [go_sem, reduceIte, reduceCtorEq, Nat.reduceAdd, Nat.reduceMul, Nat.reduceEqDiff, Nat.reduceLT, Nat.reduceLeDiff, Nat.reduceSub, Nat.reducePow, Nat.reduceBEq, Int.reduceToNat, List.reduceReplicate]
  exact Wk.refl _
/-- Ascending by the first numbers. -/
def Asc (P : List (Int × Int)) : Prop := ∀ (i j : Nat) (a b : Int × Int), i ≤ j → P[i]? = some a → P[j]? = some b → a.1 ≤ b.1
theorem Asc.cmp {P : List (Int × Int)} (h : Asc P) {i j : Nat} {a b : Int × Int} (hij : i ≤ j) (ha : P[i]? = some a) (hb : P[j]? = some b) : ¬ cmpI b.1 a.1 < 0 := by
  have := h i j a b hij ha hb
  unfold cmpI
  rw [if_neg (by omega)]
  split <;> omega
theorem asc_prsL (L : List Int) (n : Nat) : Asc (prsL L n) := by
  have hp : (prsL L n).Pairwise fun x y => x.1 < y.1 := by
    unfold prsL
    refine List.pairwise_map.2 (List.Pairwise.imp (fun {a b} h => ?_) (List.Pairwise.sublist List.filter_sublist (List.pairwise_lt_range (n := n))))
    simp only; omega
  intro i j a b hij ha hb
  obtain ⟨h1, rfl⟩ := List.getElem?_eq_some_iff.1 ha
  obtain ⟨h2, rfl⟩ := List.getElem?_eq_some_iff.1 hb
  by_cases e : i = j
  · subst e; exact Int.le_refl _
  · have := List.pairwise_iff_getElem.1 hp i j h1 h2 (by omega)
    omega
theorem ins_r (P : List (Int × Int)) (hl : P.length ≤ 1000) (hA : Asc P) : Reads Try.prog 64 false [.rsl 2 (P.map pairV), .int .i64 0, .int .i64 P.length, .fn 45 []] (.tup []) := by
  refine Reads.body (rs := []) Try.func64 rfl Try.ntmps64 rfl (by simp) ?_
  generalize hQr : retQ _ _ _ = Qr
  refine AW.seq fun K1 hK1 => ?_
  -- region 0
  refine AW.regionK 0 (fun _ => none) [0, 1, 2, 3, 8] [] ?_
  simp only [go_sem, reduceIte, reduceCtorEq, Nat.reduceAdd, Nat.reduceMul, Nat.reduceEqDiff, Nat.reduceLT, Nat.reduceLeDiff, Nat.reduceSub, Nat.reducePow, Nat.reduceBEq, Int.reduceToNat, List.reduceReplicate]
  repeat with_reducible refine cj ?_ ?_
  all_goals try first | omega
  refine hK1 _ _ _ ?_; clear hK1
  refine AW.block ?_
  -- loop 1
  refine AW.loopE (fun mm ee ss kk => ∃ (i : Nat), P.length - i = mm ∧ ee = [(0, .rsl 2 (P.map pairV)), (1, .int .i64 0), (2, .int .i64 P.length), (3, .fn 45 []), (8, .int .i64 ((i + 1 : Nat) : Int))] ∧ ss = [] ∧ (i ≤ P.length)) ?_ ?_
  · refine ⟨_, 0, rfl, ?henv, ?hstore, ?hst⟩
    case henv =>
      repeat' (first | rfl | refine env_cons ?_ ?_ | refine st_cons ?_ ?_ ?_ ?_ | refine int_eq ?_ | refine bool_eq ?_ | refine rsl_eq ?_ | refine osl_eq ?_ | refine sl_eq ?_ ?_ ?_ | refine ptr_eq ?_ ?_ ?_ | refine agg_eq ?_ | refine es_cons ?_ ?_ | refine row_cons ?_ ?_)
      all_goals (first | (simp; done) | omega | (simp; omega))
    case hstore =>
      repeat' (first | rfl | refine env_cons ?_ ?_ | refine st_cons ?_ ?_ ?_ ?_ | refine int_eq ?_ | refine bool_eq ?_ | refine rsl_eq ?_ | refine osl_eq ?_ | refine sl_eq ?_ ?_ ?_ | refine ptr_eq ?_ ?_ ?_ | refine agg_eq ?_ | refine es_cons ?_ ?_ | refine row_cons ?_ ?_)
      all_goals (first | (simp; done) | omega | (simp; omega))
    case hst =>
      first | trivial | omega | (simp; done) | (simp; omega)
  rintro mm ee ss kk ⟨i, rfl, rfl, rfl, hI⟩
  generalize hQl1 : thenQ _ _ = Ql1
  refine AW.seq fun K2 hK2 => ?_
  refine AW.seq fun K3 hK3 => ?_
  -- region 1
  refine AW.regionK 0 (fun _ => none) [0, 1, 2, 3, 8, 14] [] ?_
  simp only [go_sem, reduceIte, reduceCtorEq, Nat.reduceAdd, Nat.reduceMul, Nat.reduceEqDiff, Nat.reduceLT, Nat.reduceLeDiff, Nat.reduceSub, Nat.reducePow, Nat.reduceBEq, Int.reduceToNat, List.reduceReplicate]
  repeat with_reducible refine cj ?_ ?_
  all_goals try first | omega
  refine hK3 _ _ _ ?_; clear hK3
  -- cond 1
  refine AW.cond rfl (by simp only [go_sem, reduceIte, reduceCtorEq, Nat.reduceAdd, Nat.reduceMul, Nat.reduceEqDiff, Nat.reduceLT, Nat.reduceLeDiff, Nat.reduceSub, Nat.reducePow, Nat.reduceBEq, Int.reduceToNat, List.reduceReplicate]) ?_ ?_
  · intro hb
    try simp only [hB, decide_eq_true_eq, decide_eq_false_iff_not] at hb
    obtain ⟨a, ha⟩ := getI (l := P) (j := i) (by omega)
    obtain ⟨b, hb2⟩ := getI (l := P) (j := i + 1) (by omega)
    have hga := getV (f := pairV) ha
    have hgb := getV (f := pairV) hb2
    have hc := acmp_r b a
    have hn := hA.cmp (by omega) ha hb2
    have e1 : ((i + 1 : Nat) : Int).toNat = i + 1 := by omega
    have e2 : (((i + 1 : Nat) : Int) - 1).toNat = i := by omega
    unfold pairV at hc
    refine AW.skip ?_
    refine hK2 _ _ _ ?_; clear hK2
    refine AW.seq fun K4 hK4 => ?_
    refine AW.block ?_
    refine AW.seq fun K5 hK5 => ?_
    -- region 3
    refine AW.regionK 0 (fun _ => none) [0, 1, 2, 3, 8, 9] [] ?_
    simp only [go_sem, reduceIte, reduceCtorEq, Nat.reduceAdd, Nat.reduceMul, Nat.reduceEqDiff, Nat.reduceLT, Nat.reduceLeDiff, Nat.reduceSub, Nat.reducePow, Nat.reduceBEq, Int.reduceToNat, List.reduceReplicate]
    repeat with_reducible refine cj ?_ ?_
    all_goals try first | omega
    refine hK5 _ _ _ ?_; clear hK5
    refine AW.block ?_
    -- loop 2
    refine AW.loopE (fun mm ee ss kk => 0 + 1 = mm ∧ ee = [(0, .rsl 2 (P.map pairV)), (1, .int .i64 0), (2, .int .i64 P.length), (3, .fn 45 []), (8, .int .i64 ((i + 1 : Nat) : Int)), (9, .int .i64 ((i + 1 : Nat) : Int))] ∧ ss = [] ∧ (True)) ?_ ?_
    · refine ⟨_, rfl, ?henv, ?hstore, ?hst⟩
      case henv =>
        repeat' (first | rfl | refine env_cons ?_ ?_ | refine st_cons ?_ ?_ ?_ ?_ | refine int_eq ?_ | refine bool_eq ?_ | refine rsl_eq ?_ | refine osl_eq ?_ | refine sl_eq ?_ ?_ ?_ | refine ptr_eq ?_ ?_ ?_ | refine agg_eq ?_ | refine es_cons ?_ ?_ | refine row_cons ?_ ?_)
        all_goals (first | (simp; done) | omega | (simp; omega))
      case hstore =>
        repeat' (first | rfl | refine env_cons ?_ ?_ | refine st_cons ?_ ?_ ?_ ?_ | refine int_eq ?_ | refine bool_eq ?_ | refine rsl_eq ?_ | refine osl_eq ?_ | refine sl_eq ?_ ?_ ?_ | refine ptr_eq ?_ ?_ ?_ | refine agg_eq ?_ | refine es_cons ?_ ?_ | refine row_cons ?_ ?_)
        all_goals (first | (simp; done) | omega | (simp; omega))
      case hst =>
        first | trivial | omega | (simp; done) | (simp; omega)
    rintro mm ee ss kk ⟨rfl, rfl, rfl, hI⟩
    generalize hQl2 : thenQ _ _ = Ql2
    refine AW.seq fun K6 hK6 => ?_
    refine AW.seq fun K7 hK7 => ?_
    -- region 4
    refine AW.regionD mixed 0 (fun ii => if ii = 14 then some (.reads false (.int .i64 (cmpI b.1 a.1))) else none) [0, 1, 2, 3, 8, 9, 34] [] ?_
    simp only [go_sem, reduceIte, reduceCtorEq, Nat.reduceAdd, Nat.reduceMul, Nat.reduceEqDiff, Nat.reduceLT, Nat.reduceLeDiff, Nat.reduceSub, Nat.reducePow, Nat.reduceBEq, Int.reduceToNat, List.reduceReplicate, hga, hgb, pairV, e1, e2]
    repeat with_reducible refine cj ?_ ?_
    all_goals try first | (first | exact hc | (intro hh; (repeat' apply And.intro) <;> first | exact hh | omega)) | (intros; (repeat' apply And.intro) <;> first | assumption | (first | exact hc | (intro hh; (repeat' apply And.intro) <;> first | exact hh | omega))) | omega | exact chk (by kernel_rfl) | exact ent (by kernel_rfl) | (intro hgd; exact absurd hgd (by decide)) | rfl | (simp only [go_sem, reduceIte, reduceCtorEq, Nat.reduceAdd, Nat.reduceMul, Nat.reduceEqDiff, Nat.reduceLT, Nat.reduceLeDiff, Nat.reduceSub, Nat.reducePow, Nat.reduceBEq, Int.reduceToNat, List.reduceReplicate, hga, hgb, pairV, e1, e2]; done) | (intro _hgd; simp_all [go_sem]; done)
    refine hK7 _ _ _ ?_; clear hK7
    -- cond 2
    refine AW.cond rfl (by simp only [go_sem, reduceIte, reduceCtorEq, Nat.reduceAdd, Nat.reduceMul, Nat.reduceEqDiff, Nat.reduceLT, Nat.reduceLeDiff, Nat.reduceSub, Nat.reducePow, Nat.reduceBEq, Int.reduceToNat, List.reduceReplicate]) ?_ ?_
    · intro hb
      try simp only [hB, decide_eq_true_eq, decide_eq_false_iff_not] at hb
      exfalso; obtain ⟨_, hb⟩ := hb; exact hn hb
    · intro hb
      try simp only [hB, decide_eq_true_eq, decide_eq_false_iff_not] at hb
      refine AW.keep [0, 1, 2, 3, 8] [] ?_
      try simp only [go_sem, reduceIte, reduceCtorEq, Nat.reduceAdd, Nat.reduceMul, Nat.reduceEqDiff, Nat.reduceLT, Nat.reduceLeDiff, Nat.reduceSub, Nat.reducePow, Nat.reduceBEq, Int.reduceToNat, List.reduceReplicate]
      refine AW.exit ?_
      rw [← hQl2]
      refine hK4 _ _ _ ?_; clear hK4
      -- region 2
      refine AW.regionK 0 (fun _ => none) [0, 1, 2, 3, 8] [] ?_
      simp only [go_sem, reduceIte, reduceCtorEq, Nat.reduceAdd, Nat.reduceMul, Nat.reduceEqDiff, Nat.reduceLT, Nat.reduceLeDiff, Nat.reduceSub, Nat.reducePow, Nat.reduceBEq, Int.reduceToNat, List.reduceReplicate]
      repeat with_reducible refine cj ?_ ?_
      all_goals try first | omega
      rw [← hQl1]
      change Exists _
      refine ⟨_, ?hm, i + 1, rfl, ?henv, ?hstore, ?hst⟩
      case henv =>
        repeat' (first | rfl | refine env_cons ?_ ?_ | refine st_cons ?_ ?_ ?_ ?_ | refine int_eq ?_ | refine bool_eq ?_ | refine rsl_eq ?_ | refine osl_eq ?_ | refine sl_eq ?_ ?_ ?_ | refine ptr_eq ?_ ?_ ?_ | refine agg_eq ?_ | refine es_cons ?_ ?_ | refine row_cons ?_ ?_)
        all_goals (first | (simp; done) | omega | (simp; omega))
      case hstore =>
        repeat' (first | rfl | refine env_cons ?_ ?_ | refine st_cons ?_ ?_ ?_ ?_ | refine int_eq ?_ | refine bool_eq ?_ | refine rsl_eq ?_ | refine osl_eq ?_ | refine sl_eq ?_ ?_ ?_ | refine ptr_eq ?_ ?_ ?_ | refine agg_eq ?_ | refine es_cons ?_ ?_ | refine row_cons ?_ ?_)
        all_goals (first | (simp; done) | omega | (simp; omega))
      case hst =>
        first | trivial | omega | (simp; done) | (simp; omega)
      case hm => omega
  · intro hb
    try simp only [hB, decide_eq_true_eq, decide_eq_false_iff_not] at hb
    refine AW.keep [] [] ?_
    try simp only [go_sem, reduceIte, reduceCtorEq, Nat.reduceAdd, Nat.reduceMul, Nat.reduceEqDiff, Nat.reduceLT, Nat.reduceLeDiff, Nat.reduceSub, Nat.reducePow, Nat.reduceBEq, Int.reduceToNat, List.reduceReplicate]
    refine AW.exit ?_
    rw [← hQl1]
    rw [← hQr]
    simp only [go_sem, reduceIte, reduceCtorEq, Nat.reduceAdd, Nat.reduceMul, Nat.reduceEqDiff, Nat.reduceLT, Nat.reduceLeDiff, Nat.reduceSub, Nat.reducePow, Nat.reduceBEq, Int.reduceToNat, List.reduceReplicate]
    exact Wk.refl _
end Go.Proofs.M

