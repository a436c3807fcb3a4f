/- Lemmas and contracts, part 6: an abstract machine over the model, and the functions that the statement reaches. -/
import Derived.Test.YtodcjknicbmakaaDoorWidthChecksP5
import Derived.Carry
import Derived.RowKit
import Derived.OpenShut
import Derived.Below
import Derived.ChangeSame
import Derived.JoinedOf
import Derived.Handed
import Derived.MakeChecks
import Derived.LaidMore
import Derived.Test.YtodcjknicbmakaaDoorRows
set_option linter.unusedVariables false
set_option linter.unusedSimpArgs false
open Nat renaming reduceAdd → zA, reduceMul → zM, reduceEqDiff → zE, reduceLT → zL, reduceLeDiff → zD, reduceSub → zS, reducePow → zP, reduceBEq → zB
open Int renaming reduceToNat → zI
open List renaming reduceReplicate → zR
namespace Go.Proofs.W
open Go.AM Go
set_option maxRecDepth 100000
set_option maxHeartbeats 2000000
def okC (n : Nat) (t : List (List Bool)) (c : List Int) : Bool := !decide (c.length = 0) && chainB n t c
def partB (n : Nat) (t : List (List Bool)) (cs : List (List Int)) : Bool := cs.all (okC n t) && (decide cs.flatten.Nodup && decide (cs.flatten.length = n))
theorem okC_rng {n : Nat} {t : List (List Bool)} {c : List Int} (h : okC n t c = true) : ∀ x ∈ c, 0 ≤ x ∧ x < (n : Int) := fun x hx => by
  unfold okC chainB at h
  simp only [Bool.and_eq_true, Bool.not_eq_true'] at h
  have h1 := h.2.1
  rw [List.any_eq_false] at h1
  have := h1 x hx
  unfold outB at this
  simp at this
  omega
theorem rowL_snoc {n : Nat} {l : List Int} {x : Int} (h : 0 ≤ x ∧ x < (n : Int)) : (rowL n l).set x.toNat true = rowL n (l ++ [x]) := by
  refine getD_extB (by simp [rowL_len]) fun i hi => ?_
  simp only [List.length_set, rowL_len] at hi
  rw [getD_setB, rowL_get hi, rowL_get hi, rowL_len]
  by_cases e : x.toNat = i
  · rw [if_pos (by omega)]
    have : (i : Int) = x := by omega
    simp [this]
  · rw [if_neg (by omega)]
    have : ¬ (i : Int) = x := by omega
    simp [this]
theorem flat_split {cs : List (List Int)} {j k : Nat} {c : List Int} {x : Int} (hc : cs[j]? = some c) (hx : c[k]? = some x) : cs.flatten = ((cs.take j).flatten ++ c.take k) ++ x :: (c.drop (k + 1) ++ (cs.drop (j + 1)).flatten) := by
  obtain ⟨hj, rfl⟩ := List.getElem?_eq_some_iff.1 hc
  obtain ⟨hk, rfl⟩ := List.getElem?_eq_some_iff.1 hx
  have e1 : cs = cs.take j ++ cs[j] :: cs.drop (j + 1) := by rw [← List.drop_eq_getElem_cons hj, List.take_append_drop]
  have e2 : cs[j] = cs[j].take k ++ cs[j][k] :: cs[j].drop (k + 1) := by rw [← List.drop_eq_getElem_cons hk, List.take_append_drop]
  have e3 := congrArg List.flatten e1
  rw [List.flatten_append, List.flatten_cons] at e3
  have e4 := congrArg (fun z => (cs.take j).flatten ++ (z ++ (cs.drop (j + 1)).flatten)) e2
  rw [e3, e4, List.append_assoc (cs.take j).flatten, List.append_assoc (cs[j].take k), List.cons_append]
theorem not_nodup_at {F R : List Int} {x : Int} (h : x ∈ F) : ¬ (F ++ x :: R).Nodup := fun hn => by
  have := (List.nodup_append.1 hn).2.2 x h x (by simp)
  exact this rfl
theorem nodup_rng {n : Nat} {F : List Int} (hn : F.Nodup) (hr : ∀ x ∈ F, 0 ≤ x ∧ x < (n : Int)) : F.length ≤ n := by
  have := nodup_sub (l := F) (l' := (List.range n).map fun (i : Nat) => (i : Int)) hn fun x hx => by
    have := hr x hx
    exact List.mem_map.2 ⟨x.toNat, List.mem_range.2 (by omega), by omega⟩
  simpa using this
theorem check_e (es : List (List AV)) (hl : es.length ≤ 9223372036854775807) (N : Int) (W : List Int) (hW : W.length ≤ 9223372036854775807) (cs : List (List Int)) (h : Reads Tryd.prog 18 false [.agg [.rsl 2 es], .agg [.int .i64 N, .rsl 1 (words W)]] (.bool false)) : Reads Tryd.prog 19 false [.agg [.rsl 2 es], .agg [.int .i64 N, .rsl 1 (words W)], .rsl 1 (M.nbR cs)] (.bool false) := by
  refine Reads.body (rs := [.tmp 6]) Tryd.func19 rfl Tryd.ntmps19 rfl (by simp) ?_
  generalize hQr : retQ _ _ _ = Qr
  refine AW.seq fun K1 hK1 => ?_
  refine AW.regionK 0 (fun _ => none) [2, 3, 4] [3, 4] ?_
  simp only [go_sem, reduceIte, reduceCtorEq, zA, zM, zE, zL, zD, zS, zP, zB, zI, zR]
  repeat with_reducible refine cj ?_ ?_
  all_goals try first | omega
  refine hK1 _ _ _ ?_; clear hK1
  refine AW.seq fun K2 hK2 => ?_
  refine AW.seq fun K3 hK3 => ?_
  refine AW.regionK 0 (fun ii => if ii = 2 then some (.reads false (.bool false)) else if ii = 8 then some (.reads false (.int .i64 0)) else none) [2, 3, 23] [3] ?_
  simp only [go_sem, reduceIte, reduceCtorEq, zA, zM, zE, zL, zD, zS, zP, zB, zI, zR]
  repeat with_reducible refine cj ?_ ?_
  all_goals try first | (first | exact h | (intro hh; simp at hh)) | (intros; (repeat' apply And.intro) <;> first | assumption | (first | exact h | (intro hh; simp at hh))) | omega | exact ent (by kernel_rfl) | (intro hgd; exact absurd hgd (by decide)) | rfl | (simp only [go_sem, reduceIte, reduceCtorEq, zA, zM, zE, zL, zD, zS, zP, zB, zI, zR]; done) | (intro _hgd; simp_all [go_sem]; done)
  refine hK3 _ _ _ ?_; clear hK3
  refine AW.cond rfl (by simp only [go_sem, reduceIte, reduceCtorEq, zA, zM, zE, zL, zD, zS, zP, zB, zI, zR]) ?_ ?_
  · intro hb
    try simp only [hB, decide_eq_true_eq, decide_eq_false_iff_not] at hb
    refine AW.seq fun K4 hK4 => ?_
    refine AW.regionK 0 (fun _ => none) [6] [] ?_
    simp only [go_sem, reduceIte, reduceCtorEq, zA, zM, zE, zL, zD, zS, zP, zB, zI, zR]
    repeat with_reducible refine cj ?_ ?_
    all_goals try first | omega
    refine hK4 _ _ _ ?_; clear hK4
    refine AW.ret ?_
    rw [← hQr]
    simp only [go_sem, reduceIte, reduceCtorEq, zA, zM, zE, zL, zD, zS, zP, zB, zI, zR]
    exact Wk.refl _
  · intro hb
    try simp only [hB, decide_eq_true_eq, decide_eq_false_iff_not] at hb
    exfalso; simp at hb
theorem check_g (n : Nat) (t : List (List Bool)) (hs : Sq n t) (hn : n ≤ 512) (hp : poB n t = true) (b : List Bool) (hb0 : b.length = n) (cs : List (List Int)) (hl : cs.length ≤ 100000) (hll : ∀ c ∈ cs, c.length ≤ 100000) :
    Reads Tryd.prog 19 false [relB t, .agg [.int .i64 n, .rsl 1 (words (setW b n))], .rsl 1 (M.nbR cs)] (.bool (antiB t b && decide (cs.length = (memB b).length) && partB n t cs)) := by
  have htl : (tabR t).length = n := by rw [tabR_len, hs.len]
  have ha := isanti_g n t hs hn hp b hb0
  have hc := count_b b (by omega)
  have hml := memB_le b
  unfold rowB at hc
  rw [hb0] at hc
  have hic := fun c h => ischain_g n t hs hn hp c h
  have hnl := M.nbR_len cs
  have hz : List.replicate n [AV.bool false] = bools (rowL n []) := by rw [rowL_nil]; simp [bools]
  generalize setW b n = W at *
  generalize hmb : (memB b).length = mb at *
  unfold relB at *
  refine Reads.body (rs := [.tmp 6]) Tryd.func19 rfl Tryd.ntmps19 rfl (by simp) ?_
  generalize hQr : retQ _ _ _ = Qr
  refine AW.seq fun K1 hK1 => ?_
  refine AW.regionK 0 (fun _ => none) [2, 3, 4] [3, 4, 27] ?_
  simp only [go_sem, reduceIte, reduceCtorEq, zA, zM, zE, zL, zD, zS, zP, zB, zI, zR, htl, hnl, ints_len]
  repeat with_reducible refine cj ?_ ?_
  all_goals try first | omega
  refine hK1 _ _ _ ?_; clear hK1
  refine AW.seq fun K2 hK2 => ?_
  refine AW.seq fun K3 hK3 => ?_
  refine AW.regionK 0 (fun ii => if ii = 2 then some (.reads false (.bool (antiB t b))) else if ii = 8 then some (.reads false (.int .i64 (mb : Nat))) else none) [2, 3, 23] [3, 27] ?_
  simp only [go_sem, reduceIte, reduceCtorEq, zA, zM, zE, zL, zD, zS, zP, zB, zI, zR, htl, hnl, ints_len]
  repeat with_reducible refine cj ?_ ?_
  all_goals try first | (first | exact ha | (intro hh; exact ⟨hh, hc⟩)) | (intros; (repeat' apply And.intro) <;> first | assumption | (first | exact ha | (intro hh; exact ⟨hh, hc⟩))) | omega | exact ent (by kernel_rfl) | (intro hgd; exact absurd hgd (by decide)) | rfl | (simp only [go_sem, reduceIte, reduceCtorEq, zA, zM, zE, zL, zD, zS, zP, zB, zI, zR, htl, hnl, ints_len]; done) | (intro _hgd; simp_all [go_sem]; done)
  refine hK3 _ _ _ ?_; clear hK3
  refine AW.cond rfl (by simp only [go_sem, reduceIte, reduceCtorEq, zA, zM, zE, zL, zD, zS, zP, zB, zI, zR]) ?_ ?_
  · intro hb
    try simp only [hB, decide_eq_true_eq, decide_eq_false_iff_not] at hb
    refine AW.seq fun K4 hK4 => ?_
    refine AW.regionK 0 (fun _ => none) [6] [3, 27] ?_
    simp only [go_sem, reduceIte, reduceCtorEq, zA, zM, zE, zL, zD, zS, zP, zB, zI, zR, htl, hnl, ints_len]
    repeat with_reducible refine cj ?_ ?_
    all_goals try first | omega
    refine hK4 _ _ _ ?_; clear hK4
    refine AW.ret ?_
    rw [← hQr]
    simp only [go_sem, reduceIte, reduceCtorEq, zA, zM, zE, zL, zD, zS, zP, zB, zI, zR, htl, hnl, ints_len]
    exact Wk.of_eq (by revert hb; cases antiB t b <;> simp; intro h h2; omega)
  · intro hb
    try simp only [hB, decide_eq_true_eq, decide_eq_false_iff_not] at hb
    have hanti : antiB t b = true := by revert hb; cases antiB t b <;> simp
    have hlm : cs.length = mb := by rw [hanti] at hb; simp at hb; omega
    clear hb
    refine AW.skip ?_
    refine hK2 _ _ _ ?_; clear hK2
    refine AW.seq fun K5 hK5 => ?_
    refine AW.regionK 0 (fun _ => none) [2, 3, 7] [3, 27] ?_
    simp only [go_sem, reduceIte, reduceCtorEq, zA, zM, zE, zL, zD, zS, zP, zB, zI, zR, htl, hnl, ints_len, hz]
    repeat with_reducible refine cj ?_ ?_
    all_goals try first | omega
    refine hK5 _ _ _ ?_; clear hK5
    refine AW.seq fun K6 hK6 => ?_
    refine AW.regionK 0 (fun _ => none) [2, 3, 7, 8] [3, 27] ?_
    simp only [go_sem, reduceIte, reduceCtorEq, zA, zM, zE, zL, zD, zS, zP, zB, zI, zR, htl, hnl, ints_len]
    repeat with_reducible refine cj ?_ ?_
    all_goals try first | omega
    refine hK6 _ _ _ ?_; clear hK6
    refine AW.seq fun K7 hK7 => ?_
    refine AW.seq fun K8 hK8 => ?_
    refine AW.regionK 0 (fun _ => none) [3, 7, 8, 28, 29, 30] [3, 27] ?_
    simp only [go_sem, reduceIte, reduceCtorEq, zA, zM, zE, zL, zD, zS, zP, zB, zI, zR, htl, hnl, ints_len]
    repeat with_reducible refine cj ?_ ?_
    all_goals try first | omega
    refine hK8 _ _ _ ?_; clear hK8
    refine AW.block ?_
    refine AW.loopE (fun mm ee ss kk => ∃ (j g3 v3 g7 v7 : Nat), cs.length - j = mm ∧ ee = [(3, .ptr ⟨3, g3, none⟩ 0 0), (7, .sl ⟨27, g7, none⟩ 0 n none), (8, .int .i64 ((cs.take j).flatten.length : Nat)), (28, .rsl 1 (M.nbR cs)), (29, .int .i64 cs.length), (30, .int .i64 (j : Nat))] ∧ ss = [(3, some ⟨g3, v3, 1, [[.rsl 2 (tabR t)]]⟩), (27, some ⟨g7, v7, 1, bools (rowL n (cs.take j).flatten)⟩)] ∧ (j ≤ cs.length ∧ (cs.take j).all (okC n t) = true ∧ (cs.take j).flatten.Nodup ∧ ∀ x ∈ (cs.take j).flatten, 0 ≤ x ∧ x < (n : Int))) ?_ ?_
    · refine ⟨_, 0, ?_, ?_, ?_, ?_, rfl, ?henv, ?hstore, ?hst⟩
      case henv =>
        repeat' (first | rfl | refine env_cons ?_ ?_ | refine st_cons ?_ ?_ ?_ ?_ | refine int_eq ?_ | refine bool_eq ?_ | refine rsl_eq ?_ | refine osl_eq ?_ | refine sl_eq ?_ ?_ ?_ | refine ptr_eq ?_ ?_ ?_ | refine agg_eq ?_ | refine es_cons ?_ ?_ | refine row_cons ?_ ?_)
        all_goals (first | (simp; done) | omega | (simp; omega))
      case hstore =>
        repeat' (first | rfl | refine env_cons ?_ ?_ | refine st_cons ?_ ?_ ?_ ?_ | refine int_eq ?_ | refine bool_eq ?_ | refine rsl_eq ?_ | refine osl_eq ?_ | refine sl_eq ?_ ?_ ?_ | refine ptr_eq ?_ ?_ ?_ | refine agg_eq ?_ | refine es_cons ?_ ?_ | refine row_cons ?_ ?_)
        all_goals (first | (simp; done) | omega | (simp; omega))
      case hst =>
        exact ⟨by omega, by simp, by simp, by simp⟩
    rintro mm ee ss kk ⟨j, g3, v3, g7, v7, rfl, rfl, rfl, hI⟩
    generalize hQl1 : thenQ _ _ = Ql1
    obtain ⟨hj, hok, hnd, hrg⟩ := hI
    refine AW.seq fun K9 hK9 => ?_
    refine AW.regionK 0 (fun _ => none) [3, 7, 8, 28, 29, 30, 31] [3, 27] ?_
    simp only [go_sem, reduceIte, reduceCtorEq, zA, zM, zE, zL, zD, zS, zP, zB, zI, zR, htl, hnl, ints_len]
    repeat with_reducible refine cj ?_ ?_
    all_goals try first | omega
    refine hK9 _ _ _ ?_; clear hK9
    refine AW.seq fun K10 hK10 => ?_
    refine AW.cond rfl (by simp only [go_sem, reduceIte, reduceCtorEq, zA, zM, zE, zL, zD, zS, zP, zB, zI, zR]) ?_ ?_
    · intro hb
      try simp only [hB, decide_eq_true_eq, decide_eq_false_iff_not] at hb
      obtain ⟨c, hcj⟩ := getI (l := cs) (j := j) (by omega)
      have hgc := M.nbR_get hcj
      have hcl := hll c (List.mem_of_getElem? hcj)
      have hcc := hic c (by omega)
      have htj : (cs.take (j + 1)) = cs.take j ++ [c] := by rw [List.take_add_one, hcj]; rfl
      have hats := all_take_succ (p := okC n t) hcj
      have hfl0 := nodup_rng hnd hrg
      refine AW.skip ?_
      refine hK10 _ _ _ ?_; clear hK10
      refine AW.seq fun K11 hK11 => ?_
      refine AW.block ?_
      refine AW.seq fun K12 hK12 => ?_
      refine AW.regionK 0 (fun _ => none) [3, 7, 8, 10, 28, 29, 30] [3, 27] ?_
      simp only [go_sem, reduceIte, reduceCtorEq, zA, zM, zE, zL, zD, zS, zP, zB, zI, zR, htl, hnl, ints_len, hgc]
      repeat with_reducible refine cj ?_ ?_
      all_goals try first | omega
      refine hK12 _ _ _ ?_; clear hK12
      refine AW.seq fun K13 hK13 => ?_
      refine AW.seq fun K14 hK14 => ?_
      refine AW.regionK 0 (fun ii => if ii = 6 then some (.reads false (.bool (chainB n t c))) else none) [3, 7, 8, 10, 28, 29, 30, 42] [3, 27] ?_
      simp only [go_sem, reduceIte, reduceCtorEq, zA, zM, zE, zL, zD, zS, zP, zB, zI, zR, htl, hnl, ints_len]
      repeat with_reducible refine cj ?_ ?_
      all_goals try first | (first | exact hcc | (intro hh; exact ⟨hh, hcc⟩)) | (intros; (repeat' apply And.intro) <;> first | assumption | (first | exact hcc | (intro hh; exact ⟨hh, hcc⟩))) | omega | exact ent (by kernel_rfl) | (intro hgd; exact absurd hgd (by decide)) | rfl | (simp only [go_sem, reduceIte, reduceCtorEq, zA, zM, zE, zL, zD, zS, zP, zB, zI, zR, htl, hnl, ints_len]; done) | (intro _hgd; simp_all [go_sem]; done)
      refine hK14 _ _ _ ?_; clear hK14
      refine AW.cond rfl (by simp only [go_sem, reduceIte, reduceCtorEq, zA, zM, zE, zL, zD, zS, zP, zB, zI, zR]) ?_ ?_
      · intro hb
        try simp only [hB, decide_eq_true_eq, decide_eq_false_iff_not] at hb
        refine AW.seq fun K15 hK15 => ?_
        refine AW.regionK 0 (fun _ => none) [6] [3, 27] ?_
        simp only [go_sem, reduceIte, reduceCtorEq, zA, zM, zE, zL, zD, zS, zP, zB, zI, zR, htl, hnl, ints_len]
        repeat with_reducible refine cj ?_ ?_
        all_goals try first | omega
        refine hK15 _ _ _ ?_; clear hK15
        refine AW.ret ?_
        rw [← hQl1]
        rw [← hQr]
        simp only [go_sem, reduceIte, reduceCtorEq, zA, zM, zE, zL, zD, zS, zP, zB, zI, zR, htl, hnl, ints_len]
        have hf : partB n t cs = false := by
          have : cs.all (okC n t) = false := all_false_of hcj (by unfold okC; revert hb; cases chainB n t c <;> simp)
          unfold partB; rw [this]; rfl
        exact Wk.of_eq (by rw [hf]; simp)
      · intro hb
        try simp only [hB, decide_eq_true_eq, decide_eq_false_iff_not] at hb
        have hokc : okC n t c = true := by unfold okC; revert hb; cases chainB n t c <;> simp
        have hcr := okC_rng hokc
        clear hb
        refine AW.skip ?_
        refine hK13 _ _ _ ?_; clear hK13
        refine AW.seq fun K16 hK16 => ?_
        refine AW.regionK 0 (fun _ => none) [3, 7, 8, 28, 29, 30, 43, 44, 45] [3, 27] ?_
        simp only [go_sem, reduceIte, reduceCtorEq, zA, zM, zE, zL, zD, zS, zP, zB, zI, zR, htl, hnl, ints_len]
        repeat with_reducible refine cj ?_ ?_
        all_goals try first | omega
        refine hK16 _ _ _ ?_; clear hK16
        refine AW.block ?_
        refine AW.loopE (fun mm ee ss kk => ∃ (k g3 v3 g7 v7 : Nat), c.length - k = mm ∧ ee = [(3, .ptr ⟨3, g3, none⟩ 0 0), (7, .sl ⟨27, g7, none⟩ 0 n none), (8, .int .i64 (((cs.take j).flatten ++ c.take k).length : Nat)), (28, .rsl 1 (M.nbR cs)), (29, .int .i64 cs.length), (30, .int .i64 (j : Nat)), (43, .rsl 1 (ints c)), (44, .int .i64 c.length), (45, .int .i64 (k : Nat))] ∧ ss = [(3, some ⟨g3, v3, 1, [[.rsl 2 (tabR t)]]⟩), (27, some ⟨g7, v7, 1, bools (rowL n ((cs.take j).flatten ++ c.take k))⟩)] ∧ (k ≤ c.length ∧ ((cs.take j).flatten ++ c.take k).Nodup ∧ ∀ x ∈ ((cs.take j).flatten ++ c.take k), 0 ≤ x ∧ x < (n : Int))) ?_ ?_
        · refine ⟨_, 0, ?_, ?_, ?_, ?_, rfl, ?henv, ?hstore, ?hst⟩
          case henv =>
            repeat' (first | rfl | refine env_cons ?_ ?_ | refine st_cons ?_ ?_ ?_ ?_ | refine int_eq ?_ | refine bool_eq ?_ | refine rsl_eq ?_ | refine osl_eq ?_ | refine sl_eq ?_ ?_ ?_ | refine ptr_eq ?_ ?_ ?_ | refine agg_eq ?_ | refine es_cons ?_ ?_ | refine row_cons ?_ ?_)
            all_goals simp
          case hstore =>
            repeat' (first | rfl | refine env_cons ?_ ?_ | refine st_cons ?_ ?_ ?_ ?_ | refine int_eq ?_ | refine bool_eq ?_ | refine rsl_eq ?_ | refine osl_eq ?_ | refine sl_eq ?_ ?_ ?_ | refine ptr_eq ?_ ?_ ?_ | refine agg_eq ?_ | refine es_cons ?_ ?_ | refine row_cons ?_ ?_)
            all_goals simp
          case hst =>
            exact ⟨by omega, by simpa using hnd, by simpa using hrg⟩
        rintro mm ee ss kk ⟨k, g3, v3, g7, v7, rfl, rfl, rfl, hI⟩
        generalize hQl2 : thenQ _ _ = Ql2
        obtain ⟨hk, hnd2, hrg2⟩ := hI
        have hfl2 := nodup_rng hnd2 hrg2
        refine AW.seq fun K17 hK17 => ?_
        refine AW.regionK 0 (fun _ => none) [3, 7, 8, 28, 29, 30, 43, 44, 45, 46] [3, 27] ?_
        simp only [go_sem, reduceIte, reduceCtorEq, zA, zM, zE, zL, zD, zS, zP, zB, zI, zR, htl, hnl, ints_len]
        repeat with_reducible refine cj ?_ ?_
        all_goals try first | omega
        refine hK17 _ _ _ ?_; clear hK17
        refine AW.seq fun K18 hK18 => ?_
        refine AW.cond rfl (by simp only [go_sem, reduceIte, reduceCtorEq, zA, zM, zE, zL, zD, zS, zP, zB, zI, zR]) ?_ ?_
        · intro hb
          try simp only [hB, decide_eq_true_eq, decide_eq_false_iff_not] at hb
          obtain ⟨x, hx⟩ := getI (l := c) (j := k) (by omega)
          have hgx := ints_get hx
          have hxr := hcr x (List.mem_of_getElem? hx)
          have hsp := flat_split hcj hx
          have htk : (cs.take j).flatten ++ c.take (k + 1) = ((cs.take j).flatten ++ c.take k) ++ [x] := by rw [List.take_add_one, hx]; simp
          generalize hF : (cs.take j).flatten ++ c.take k = F at *
          have hrl := rowL_len n F
          have hgs := bools_getD (l := rowL n F) (i := x.toNat) (by omega)
          rw [rowL_get (by omega), Int.toNat_of_nonneg hxr.1] at hgs
          have hus := bools_upd (rowL n F) x.toNat true
          rw [rowL_snoc hxr] at hus
          refine AW.skip ?_
          refine hK18 _ _ _ ?_; clear hK18
          refine AW.seq fun K19 hK19 => ?_
          refine AW.block ?_
          refine AW.seq fun K20 hK20 => ?_
          refine AW.regionK 0 (fun _ => none) [3, 7, 8, 12, 28, 29, 30, 43, 44, 45] [3, 27] ?_
          simp only [go_sem, reduceIte, reduceCtorEq, zA, zM, zE, zL, zD, zS, zP, zB, zI, zR, htl, hnl, ints_len, hgx]
          repeat with_reducible refine cj ?_ ?_
          all_goals try first | omega
          refine hK20 _ _ _ ?_; clear hK20
          refine AW.seq fun K21 hK21 => ?_
          refine AW.seq fun K22 hK22 => ?_
          refine AW.regionK 0 (fun _ => none) [3, 7, 8, 12, 28, 29, 30, 43, 44, 45, 52] [3, 27] ?_
          simp only [go_sem, reduceIte, reduceCtorEq, zA, zM, zE, zL, zD, zS, zP, zB, zI, zR, htl, hnl, ints_len, hrl, hgs]
          repeat with_reducible refine cj ?_ ?_
          all_goals try first | omega
          refine hK22 _ _ _ ?_; clear hK22
          refine AW.cond rfl (by simp only [go_sem, reduceIte, reduceCtorEq, zA, zM, zE, zL, zD, zS, zP, zB, zI, zR]) ?_ ?_
          · intro hb
            try simp only [hB, decide_eq_true_eq, decide_eq_false_iff_not] at hb
            refine AW.seq fun K23 hK23 => ?_
            refine AW.regionK 0 (fun _ => none) [6] [3, 27] ?_
            simp only [go_sem, reduceIte, reduceCtorEq, zA, zM, zE, zL, zD, zS, zP, zB, zI, zR, htl, hnl, ints_len]
            repeat with_reducible refine cj ?_ ?_
            all_goals try first | omega
            refine hK23 _ _ _ ?_; clear hK23
            refine AW.ret ?_
            rw [← hQl2]
            rw [← hQl1]
            rw [← hQr]
            simp only [go_sem, reduceIte, reduceCtorEq, zA, zM, zE, zL, zD, zS, zP, zB, zI, zR, htl, hnl, ints_len]
            have hf : partB n t cs = false := by
              have : decide cs.flatten.Nodup = false := decide_eq_false (by rw [hsp]; exact not_nodup_at hb)
              unfold partB; rw [this]; simp
            exact Wk.of_eq (by rw [hf]; simp)
          · intro hb
            try simp only [hB, decide_eq_true_eq, decide_eq_false_iff_not] at hb
            refine AW.skip ?_
            refine hK21 _ _ _ ?_; clear hK21
            refine AW.seq fun K24 hK24 => ?_
            refine AW.regionK 0 (fun _ => none) [3, 7, 8, 28, 29, 30, 43, 44, 45] [3, 27] ?_
            simp only [go_sem, reduceIte, reduceCtorEq, zA, zM, zE, zL, zD, zS, zP, zB, zI, zR, htl, hnl, ints_len, hrl, hus]
            repeat with_reducible refine cj ?_ ?_
            all_goals try first | omega
            refine hK24 _ _ _ ?_; clear hK24
            refine AW.regionK 0 (fun _ => none) [3, 7, 8, 28, 29, 30, 43, 44, 45] [3, 27] ?_
            simp only [go_sem, reduceIte, reduceCtorEq, zA, zM, zE, zL, zD, zS, zP, zB, zI, zR, htl, hnl, ints_len]
            repeat with_reducible refine cj ?_ ?_
            all_goals try first | omega
            refine hK19 _ _ _ ?_; clear hK19
            refine AW.regionK 0 (fun _ => none) [3, 7, 8, 28, 29, 30, 43, 44, 45] [3, 27] ?_
            simp only [go_sem, reduceIte, reduceCtorEq, zA, zM, zE, zL, zD, zS, zP, zB, zI, zR, htl, hnl, ints_len]
            repeat with_reducible refine cj ?_ ?_
            all_goals try first | omega
            rw [← hQl2]
            change Exists _
            refine ⟨_, ?hm, k + 1, ?_, ?_, ?_, ?_, rfl, ?henv, ?hstore, ?hst⟩
            case henv =>
              repeat' (first | rfl | refine env_cons ?_ ?_ | refine st_cons ?_ ?_ ?_ ?_ | refine int_eq ?_ | refine bool_eq ?_ | refine rsl_eq ?_ | refine osl_eq ?_ | refine sl_eq ?_ ?_ ?_ | refine ptr_eq ?_ ?_ ?_ | refine agg_eq ?_ | refine es_cons ?_ ?_ | refine row_cons ?_ ?_)
              all_goals (first | (rw [htk]; simp; done) | (simp; done) | omega)
            case hstore =>
              repeat' (first | rfl | refine env_cons ?_ ?_ | refine st_cons ?_ ?_ ?_ ?_ | refine int_eq ?_ | refine bool_eq ?_ | refine rsl_eq ?_ | refine osl_eq ?_ | refine sl_eq ?_ ?_ ?_ | refine ptr_eq ?_ ?_ ?_ | refine agg_eq ?_ | refine es_cons ?_ ?_ | refine row_cons ?_ ?_)
              all_goals (rw [htk])
            case hst =>
              rw [htk]
              refine ⟨by omega, List.nodup_append.2 ⟨hnd2, by simp, ?_⟩, fun y hy => ?_⟩
              · intro a ha z hz e
                simp only [List.mem_singleton] at hz
                subst hz; subst e; exact hb ha
              · rcases List.mem_append.1 hy with h | h
                · exact hrg2 y h
                · simp only [List.mem_singleton] at h
                  rw [h]; exact hxr
            case hm => omega
        · intro hb
          try simp only [hB, decide_eq_true_eq, decide_eq_false_iff_not] at hb
          have hk2 : k = c.length := by omega
          have hfe : (cs.take j).flatten ++ c.take k = (cs.take (j + 1)).flatten := by rw [hk2, List.take_length, htj]; simp
          rw [hfe] at hnd2 hrg2 hfl2 ⊢
          refine AW.keep [3, 7, 8, 28, 29, 30] [3, 27] ?_
          try simp only [go_sem, reduceIte, reduceCtorEq, zA, zM, zE, zL, zD, zS, zP, zB, zI, zR]
          refine AW.exit ?_
          rw [← hQl2]
          refine hK11 _ _ _ ?_; clear hK11
          refine AW.regionK 0 (fun _ => none) [3, 7, 8, 28, 29, 30] [3, 27] ?_
          simp only [go_sem, reduceIte, reduceCtorEq, zA, zM, zE, zL, zD, zS, zP, zB, zI, zR, htl, hnl, ints_len]
          repeat with_reducible refine cj ?_ ?_
          all_goals try first | omega
          rw [← hQl1]
          change Exists _
          refine ⟨_, ?hm, j + 1, ?_, ?_, ?_, ?_, rfl, ?henv, ?hstore, ?hst⟩
          case henv =>
            repeat' (first | rfl | refine env_cons ?_ ?_ | refine st_cons ?_ ?_ ?_ ?_ | refine int_eq ?_ | refine bool_eq ?_ | refine rsl_eq ?_ | refine osl_eq ?_ | refine sl_eq ?_ ?_ ?_ | refine ptr_eq ?_ ?_ ?_ | refine agg_eq ?_ | refine es_cons ?_ ?_ | refine row_cons ?_ ?_)
            all_goals (first | (simp; done) | omega | (simp; omega))
          case hstore =>
            repeat' (first | rfl | refine env_cons ?_ ?_ | refine st_cons ?_ ?_ ?_ ?_ | refine int_eq ?_ | refine bool_eq ?_ | refine rsl_eq ?_ | refine osl_eq ?_ | refine sl_eq ?_ ?_ ?_ | refine ptr_eq ?_ ?_ ?_ | refine agg_eq ?_ | refine es_cons ?_ ?_ | refine row_cons ?_ ?_)
            all_goals (first | (simp; done) | omega | (simp; omega))
          case hst =>
            exact ⟨by omega, by rw [hats, hok, hokc]; rfl, hnd2, hrg2⟩
          case hm => omega
    · intro hb
      try simp only [hB, decide_eq_true_eq, decide_eq_false_iff_not] at hb
      have hj2 : j = cs.length := by omega
      rw [hj2, List.take_length] at hok hnd hrg ⊢
      refine AW.keep [3, 8] [3, 27] ?_
      try simp only [go_sem, reduceIte, reduceCtorEq, zA, zM, zE, zL, zD, zS, zP, zB, zI, zR]
      refine AW.exit ?_
      rw [← hQl1]
      refine hK7 _ _ _ ?_; clear hK7
      refine AW.seq fun K25 hK25 => ?_
      refine AW.regionK 0 (fun _ => none) [6] [3, 27] ?_
      simp only [go_sem, reduceIte, reduceCtorEq, zA, zM, zE, zL, zD, zS, zP, zB, zI, zR, htl, hnl, ints_len]
      repeat with_reducible refine cj ?_ ?_
      all_goals try first | omega
      refine hK25 _ _ _ ?_; clear hK25
      refine AW.ret ?_
      rw [← hQr]
      simp only [go_sem, reduceIte, reduceCtorEq, zA, zM, zE, zL, zD, zS, zP, zB, zI, zR, htl, hnl, ints_len]
      exact Wk.of_eq (by unfold partB; rw [hanti, hok, decide_eq_true hlm, decide_eq_true hnd]; simp only [Bool.true_and]; congr 1; exact decide_eq_decide.2 (by omega))
end Go.Proofs.W

namespace Go.Proofs.W
open Go.AM Go
set_option maxRecDepth 100000
set_option maxHeartbeats 2000000
theorem wrap64 {i : Int} (h0 : 0 ≤ i) : IntKind.u64.wrap (i.tmod 64) = i.tmod 64 := by
  have : 0 ≤ i.tmod 64 ∧ i.tmod 64 < 64 := by rw [Int.tmod_eq_emod_of_nonneg h0]; omega
  simp [IntKind.wrap, IntKind.signed, IntKind.bits]; omega
theorem rhas_in (b : List Bool) (hb : b.length ≤ 512) (i : Int) (h0 : 0 ≤ i) (h1 : i < b.length) : Reads Tryd.prog 52 false [.agg [.int .i64 b.length, .rsl 1 (words (setW b b.length))], .int .i64 i] (.bool (b.getD i.toNat false)) := by
  have hd := div64_rng (i := i) (n := b.length) h0 (by omega)
  have hwl := setW_len' b
  have hgw := words_getD (l := setW b b.length) (i := (i.tdiv 64).toNat) (by omega)
  have hwr := wrap64 h0
  have hm := setW_mem h0 h1
  have hbl := setB_len hb
  unfold hasW at *
  generalize setW b b.length = W at *
  refine Reads.body (rs := [.tmp 4]) Tryd.func52 rfl Tryd.ntmps52 rfl (by simp) ?_
  generalize hQr : retQ _ _ _ = Qr
  refine AW.seq fun K1 hK1 => ?_
  refine AW.regionK 0 (fun _ => none) [1, 2] [2] ?_
  simp only [go_sem, reduceIte, reduceCtorEq, zA, zM, zE, zL, zD, zS, zP, zB, zI, zR]
  repeat with_reducible refine cj ?_ ?_
  all_goals try first | omega
  refine hK1 _ _ _ ?_; clear hK1
  refine AW.seq fun K2 hK2 => ?_
  refine AW.regionK 0 (fun _ => none) [4] [] ?_
  simp only [go_sem, reduceIte, reduceCtorEq, zA, zM, zE, zL, zD, zS, zP, zB, zI, zR, hgw, hwr]
  repeat with_reducible refine cj ?_ ?_
  all_goals try first | omega
  refine hK2 _ _ _ ?_; clear hK2
  refine AW.ret ?_
  rw [← hQr]
  simp only [go_sem, reduceIte, reduceCtorEq, zA, zM, zE, zL, zD, zS, zP, zB, zI, zR]
  exact Wk.of_eq (by rw [hm])
theorem fil_succ (p : Nat → Bool) (j : Nat) : ((List.range (j + 1)).filter p).length = ((List.range j).filter p).length + if p j = true then 1 else 0 := by
  rw [List.range_succ, List.filter_append, List.length_append]
  by_cases h : p j = true <;> simp [h]
theorem fil_le (p : Nat → Bool) (j : Nat) : ((List.range j).filter p).length ≤ j := by
  have := List.length_filter_le p (List.range j)
  simpa using this
theorem rsize_r (b : List Bool) (hb : b.length ≤ 512) : Reads Tryd.prog 24 false [.agg [.int .i64 b.length, .rsl 1 (words (setW b b.length))]] (.int .i64 ((memB b).length : Nat)) := by
  have hhr := rhas_in b hb
  have hmb : (memB b).length = ((List.range b.length).filter fun i => b.getD i false).length := rfl
  generalize setW b b.length = W at *
  refine Reads.body (rs := [.tmp 2]) Tryd.func24 rfl Tryd.ntmps24 rfl (by simp) ?_
  generalize hQr : retQ _ _ _ = Qr
  refine AW.seq fun K1 hK1 => ?_
  refine AW.regionK 0 (fun _ => none) [1] [1] ?_
  simp only [go_sem, reduceIte, reduceCtorEq, zA, zM, zE, zL, zD, zS, zP, zB, zI, zR]
  repeat with_reducible refine cj ?_ ?_
  all_goals try first | omega
  refine hK1 _ _ _ ?_; clear hK1
  refine AW.seq fun K2 hK2 => ?_
  refine AW.regionK 0 (fun _ => none) [1, 3] [1] ?_
  simp only [go_sem, reduceIte, reduceCtorEq, zA, zM, zE, zL, zD, zS, zP, zB, zI, zR]
  repeat with_reducible refine cj ?_ ?_
  all_goals try first | omega
  refine hK2 _ _ _ ?_; clear hK2
  refine AW.seq fun K3 hK3 => ?_
  refine AW.seq fun K4 hK4 => ?_
  refine AW.regionK 0 (fun _ => none) [1, 3, 4] [1] ?_
  simp only [go_sem, reduceIte, reduceCtorEq, zA, zM, zE, zL, zD, zS, zP, zB, zI, zR]
  repeat with_reducible refine cj ?_ ?_
  all_goals try first | omega
  refine hK4 _ _ _ ?_; clear hK4
  refine AW.block ?_
  refine AW.loopE (fun mm ee ss kk => ∃ (j g1 v1 : Nat), b.length - j = mm ∧ ee = [(1, .ptr ⟨1, g1, none⟩ 0 0), (3, .int .i64 (((List.range j).filter fun i => b.getD i false).length : Nat)), (4, .int .i64 (j : Nat))] ∧ ss = [(1, some ⟨g1, v1, 2, [[.int .i64 b.length, .rsl 1 (words W)]]⟩)] ∧ (j ≤ b.length)) ?_ ?_
  · refine ⟨_, 0, ?_, ?_, rfl, ?henv, ?hstore, ?hst⟩
    case henv =>
      repeat' (first | rfl | refine env_cons ?_ ?_ | refine st_cons ?_ ?_ ?_ ?_ | refine int_eq ?_ | refine bool_eq ?_ | refine rsl_eq ?_ | refine osl_eq ?_ | refine sl_eq ?_ ?_ ?_ | refine ptr_eq ?_ ?_ ?_ | refine agg_eq ?_ | refine es_cons ?_ ?_ | refine row_cons ?_ ?_)
      all_goals (first | (simp; done) | omega | (simp; omega))
    case hstore =>
      repeat' (first | rfl | refine env_cons ?_ ?_ | refine st_cons ?_ ?_ ?_ ?_ | refine int_eq ?_ | refine bool_eq ?_ | refine rsl_eq ?_ | refine osl_eq ?_ | refine sl_eq ?_ ?_ ?_ | refine ptr_eq ?_ ?_ ?_ | refine agg_eq ?_ | refine es_cons ?_ ?_ | refine row_cons ?_ ?_)
      all_goals (first | (simp; done) | omega | (simp; omega))
    case hst =>
      first | trivial | omega | (simp; done) | (simp; omega)
  rintro mm ee ss kk ⟨j, g1, v1, rfl, rfl, rfl, hI⟩
  generalize hQl1 : thenQ _ _ = Ql1
  refine AW.seq fun K5 hK5 => ?_
  refine AW.seq fun K6 hK6 => ?_
  refine AW.regionK 0 (fun _ => none) [1, 3, 4, 8] [1] ?_
  simp only [go_sem, reduceIte, reduceCtorEq, zA, zM, zE, zL, zD, zS, zP, zB, zI, zR]
  repeat with_reducible refine cj ?_ ?_
  all_goals try first | omega
  refine hK6 _ _ _ ?_; clear hK6
  refine AW.cond rfl (by simp only [go_sem, reduceIte, reduceCtorEq, zA, zM, zE, zL, zD, zS, zP, zB, zI, zR]) ?_ ?_
  · intro hb
    try simp only [hB, decide_eq_true_eq, decide_eq_false_iff_not] at hb
    have hh := hhr (j : Int) (by omega) (by omega)
    rw [Int.toNat_natCast] at hh
    have hsu := fil_succ (fun i => b.getD i false) j
    have hfl := fil_le (fun i => b.getD i false) j
    refine AW.skip ?_
    refine hK5 _ _ _ ?_; clear hK5
    refine AW.seq fun K7 hK7 => ?_
    refine AW.block ?_
    refine AW.seq fun K8 hK8 => ?_
    refine AW.regionK 0 (fun ii => if ii = 2 then some (.reads false (.bool (b.getD j false))) else none) [1, 3, 4, 13] [1] ?_
    simp only [go_sem, reduceIte, reduceCtorEq, zA, zM, zE, zL, zD, zS, zP, zB, zI, zR]
    repeat with_reducible refine cj ?_ ?_
    all_goals try first | (exact hh) | omega | exact ent (by kernel_rfl)
    refine hK8 _ _ _ ?_; clear hK8
    refine AW.cond rfl (by simp only [go_sem, reduceIte, reduceCtorEq, zA, zM, zE, zL, zD, zS, zP, zB, zI, zR]) ?_ ?_
    · intro hb
      try simp only [hB, decide_eq_true_eq, decide_eq_false_iff_not] at hb
      rw [if_pos hb] at hsu
      refine AW.regionK 0 (fun _ => none) [1, 3, 4] [1] ?_
      simp only [go_sem, reduceIte, reduceCtorEq, zA, zM, zE, zL, zD, zS, zP, zB, zI, zR]
      repeat with_reducible refine cj ?_ ?_
      all_goals try first | omega
      refine hK7 _ _ _ ?_; clear hK7
      refine AW.regionK 0 (fun _ => none) [1, 3, 4] [1] ?_
      simp only [go_sem, reduceIte, reduceCtorEq, zA, zM, zE, zL, zD, zS, zP, zB, zI, zR]
      repeat with_reducible refine cj ?_ ?_
      all_goals try first | omega
      rw [← hQl1]
      change Exists _
      refine ⟨_, ?hm, j + 1, ?_, ?_, rfl, ?henv, ?hstore, ?hst⟩
      case henv =>
        repeat' (first | rfl | refine env_cons ?_ ?_ | refine st_cons ?_ ?_ ?_ ?_ | refine int_eq ?_ | refine bool_eq ?_ | refine rsl_eq ?_ | refine osl_eq ?_ | refine sl_eq ?_ ?_ ?_ | refine ptr_eq ?_ ?_ ?_ | refine agg_eq ?_ | refine es_cons ?_ ?_ | refine row_cons ?_ ?_)
        all_goals (first | (rw [hsu]; done) | (rw [hsu]; simp; done) | (simp; done) | omega)
      case hstore =>
        repeat' (first | rfl | refine env_cons ?_ ?_ | refine st_cons ?_ ?_ ?_ ?_ | refine int_eq ?_ | refine bool_eq ?_ | refine rsl_eq ?_ | refine osl_eq ?_ | refine sl_eq ?_ ?_ ?_ | refine ptr_eq ?_ ?_ ?_ | refine agg_eq ?_ | refine es_cons ?_ ?_ | refine row_cons ?_ ?_)
        all_goals (first | (simp; done) | omega | (simp; omega))
      case hst =>
        first | trivial | omega | (simp; done) | (simp; omega)
      case hm => omega
    · intro hb
      try simp only [hB, decide_eq_true_eq, decide_eq_false_iff_not] at hb
      rw [if_neg (by rw [hb]; simp)] at hsu
      refine AW.skip ?_
      refine hK7 _ _ _ ?_; clear hK7
      refine AW.regionK 0 (fun _ => none) [1, 3, 4] [1] ?_
      simp only [go_sem, reduceIte, reduceCtorEq, zA, zM, zE, zL, zD, zS, zP, zB, zI, zR]
      repeat with_reducible refine cj ?_ ?_
      all_goals try first | omega
      rw [← hQl1]
      change Exists _
      refine ⟨_, ?hm, j + 1, ?_, ?_, rfl, ?henv, ?hstore, ?hst⟩
      case henv =>
        repeat' (first | rfl | refine env_cons ?_ ?_ | refine st_cons ?_ ?_ ?_ ?_ | refine int_eq ?_ | refine bool_eq ?_ | refine rsl_eq ?_ | refine osl_eq ?_ | refine sl_eq ?_ ?_ ?_ | refine ptr_eq ?_ ?_ ?_ | refine agg_eq ?_ | refine es_cons ?_ ?_ | refine row_cons ?_ ?_)
        all_goals (first | (rw [hsu]; done) | (rw [hsu]; simp; done) | (simp; done) | omega)
      case hstore =>
        repeat' (first | rfl | refine env_cons ?_ ?_ | refine st_cons ?_ ?_ ?_ ?_ | refine int_eq ?_ | refine bool_eq ?_ | refine rsl_eq ?_ | refine osl_eq ?_ | refine sl_eq ?_ ?_ ?_ | refine ptr_eq ?_ ?_ ?_ | refine agg_eq ?_ | refine es_cons ?_ ?_ | refine row_cons ?_ ?_)
        all_goals (first | (simp; done) | omega | (simp; omega))
      case hst =>
        first | trivial | omega | (simp; done) | (simp; omega)
      case hm => omega
  · intro hb
    try simp only [hB, decide_eq_true_eq, decide_eq_false_iff_not] at hb
    refine AW.keep [3] [] ?_
    try simp only [go_sem, reduceIte, reduceCtorEq, zA, zM, zE, zL, zD, zS, zP, zB, zI, zR]
    refine AW.exit ?_
    rw [← hQl1]
    refine hK3 _ _ _ ?_; clear hK3
    refine AW.seq fun K9 hK9 => ?_
    refine AW.regionK 0 (fun _ => none) [2] [] ?_
    simp only [go_sem, reduceIte, reduceCtorEq, zA, zM, zE, zL, zD, zS, zP, zB, zI, zR]
    repeat with_reducible refine cj ?_ ?_
    all_goals try first | omega
    refine hK9 _ _ _ ?_; clear hK9
    refine AW.ret ?_
    rw [← hQr]
    simp only [go_sem, reduceIte, reduceCtorEq, zA, zM, zE, zL, zD, zS, zP, zB, zI, zR]
    have hj : j = b.length := by omega
    subst hj
    exact Wk.of_eq (by rw [hmb])
def frI (t : List (List Bool)) (b : List Bool) (i k : Nat) : Bool := (List.range k).all fun j => !(b.getD i false && b.getD j false && atT t i j)
def frU (t : List (List Bool)) (b : List Bool) (n i : Nat) : Bool := (List.range i).all fun i => frI t b i n
theorem frU_anti {t : List (List Bool)} {b : List Bool} {n : Nat} (hb : b.length = n) : frU t b n n = antiB t b := by
  have h : frU t b n n = true ↔ antiB t b = true := by
    unfold frU frI antiB freeL
    simp only [List.all_eq_true, List.mem_range]
    constructor
    · intro h i hi j hj
      have h1 := memB_mem.1 hi
      have h2 := memB_mem.1 hj
      have := h i (by omega) j (by omega)
      rw [h1.2, h2.2] at this
      simpa using this
    · intro h i hi j hj
      cases hbi : b.getD i false with
      | false => rfl
      | true =>
        cases hbj : b.getD j false with
        | false => rfl
        | true =>
          have := h i (memB_mem.2 ⟨by omega, hbi⟩) j (memB_mem.2 ⟨by omega, hbj⟩)
          simpa using this
  cases h1 : frU t b n n <;> cases h2 : antiB t b <;> simp_all
theorem ranti_f (n : Nat) (t : List (List Bool)) (hs : Sq n t) (hn : n ≤ 512) (N : Int) (W : List Int) (hW : W.length ≤ 9223372036854775807) (hbad : (decide (N = n) && validS n W) = false) : Reads Tryd.prog 21 false [.rsl 1 (rowsR t), .agg [.int .i64 N, .rsl 1 (words W)]] (.bool false) := by
  have hf := R.formed_r N n W hW (by omega) (by omega)
  rw [hbad] at hf
  have hrl := rowsR_len t
  have hlen := hs.len
  refine Reads.body (rs := [.tmp 4]) Tryd.func21 rfl Tryd.ntmps21 rfl (by simp) ?_
  generalize hQr : retQ _ _ _ = Qr
  refine AW.seq fun K1 hK1 => ?_
  refine AW.regionK 0 (fun _ => none) [0, 3] [3] ?_
  simp only [go_sem, reduceIte, reduceCtorEq, zA, zM, zE, zL, zD, zS, zP, zB, zI, zR, hrl, hlen]
  repeat with_reducible refine cj ?_ ?_
  all_goals try first | omega
  refine hK1 _ _ _ ?_; clear hK1
  refine AW.seq fun K2 hK2 => ?_
  refine AW.regionK 0 (fun _ => none) [0, 3, 5] [3] ?_
  simp only [go_sem, reduceIte, reduceCtorEq, zA, zM, zE, zL, zD, zS, zP, zB, zI, zR, hrl, hlen]
  repeat with_reducible refine cj ?_ ?_
  all_goals try first | omega
  refine hK2 _ _ _ ?_; clear hK2
  refine AW.seq fun K3 hK3 => ?_
  refine AW.seq fun K4 hK4 => ?_
  refine AW.regionK 0 (fun ii => if ii = 2 then some (.reads false (.bool false)) else none) [0, 3, 5, 13] [3] ?_
  simp only [go_sem, reduceIte, reduceCtorEq, zA, zM, zE, zL, zD, zS, zP, zB, zI, zR, hrl, hlen]
  repeat with_reducible refine cj ?_ ?_
  all_goals try first | (exact hf) | omega | exact ent (by kernel_rfl)
  refine hK4 _ _ _ ?_; clear hK4
  refine AW.cond rfl (by simp only [go_sem, reduceIte, reduceCtorEq, zA, zM, zE, zL, zD, zS, zP, zB, zI, zR]) ?_ ?_
  · intro hb
    try simp only [hB, decide_eq_true_eq, decide_eq_false_iff_not] at hb
    refine AW.seq fun K5 hK5 => ?_
    refine AW.regionK 0 (fun _ => none) [4] [] ?_
    simp only [go_sem, reduceIte, reduceCtorEq, zA, zM, zE, zL, zD, zS, zP, zB, zI, zR, hrl, hlen]
    repeat with_reducible refine cj ?_ ?_
    all_goals try first | omega
    refine hK5 _ _ _ ?_; clear hK5
    refine AW.ret ?_
    rw [← hQr]
    simp only [go_sem, reduceIte, reduceCtorEq, zA, zM, zE, zL, zD, zS, zP, zB, zI, zR, hrl, hlen]
    exact Wk.refl _
  · intro hb
    try simp only [hB, decide_eq_true_eq, decide_eq_false_iff_not] at hb
    exfalso; simp at hb
theorem ranti_g (n : Nat) (t : List (List Bool)) (hs : Sq n t) (hn : n ≤ 512) (b : List Bool) (hb0 : b.length = n) : Reads Tryd.prog 21 false [.rsl 1 (rowsR t), .agg [.int .i64 n, .rsl 1 (words (setW b n))]] (.bool (antiB t b)) := by
  have hwl := setB_len (b := b) (by omega)
  have vb := validS_setW (b := b) (by omega)
  have hhr := rhas_in b (by omega)
  rw [hb0] at vb hwl hhr
  have hf := R.formed_r n n (setW b n) (by omega) (by omega) (by omega)
  rw [vb] at hf
  simp only [decide_true, Bool.and_true] at hf
  have hrl := rowsR_len t
  have hlen := hs.len
  have hfa := frU_anti (t := t) hb0
  generalize setW b n = W at *
  refine Reads.body (rs := [.tmp 4]) Tryd.func21 rfl Tryd.ntmps21 rfl (by simp) ?_
  generalize hQr : retQ _ _ _ = Qr
  refine AW.seq fun K1 hK1 => ?_
  refine AW.regionK 0 (fun _ => none) [0, 3] [3] ?_
  simp only [go_sem, reduceIte, reduceCtorEq, zA, zM, zE, zL, zD, zS, zP, zB, zI, zR, hrl, hlen, bools_len]
  repeat with_reducible refine cj ?_ ?_
  all_goals try first | omega
  refine hK1 _ _ _ ?_; clear hK1
  refine AW.seq fun K2 hK2 => ?_
  refine AW.regionK 0 (fun _ => none) [0, 3, 5] [3] ?_
  simp only [go_sem, reduceIte, reduceCtorEq, zA, zM, zE, zL, zD, zS, zP, zB, zI, zR, hrl, hlen, bools_len]
  repeat with_reducible refine cj ?_ ?_
  all_goals try first | omega
  refine hK2 _ _ _ ?_; clear hK2
  refine AW.seq fun K3 hK3 => ?_
  refine AW.seq fun K4 hK4 => ?_
  refine AW.regionK 0 (fun ii => if ii = 2 then some (.reads false (.bool true)) else none) [0, 3, 5, 13] [3] ?_
  simp only [go_sem, reduceIte, reduceCtorEq, zA, zM, zE, zL, zD, zS, zP, zB, zI, zR, hrl, hlen, bools_len]
  repeat with_reducible refine cj ?_ ?_
  all_goals try first | (exact hf) | omega | exact ent (by kernel_rfl)
  refine hK4 _ _ _ ?_; clear hK4
  refine AW.cond rfl (by simp only [go_sem, reduceIte, reduceCtorEq, zA, zM, zE, zL, zD, zS, zP, zB, zI, zR]) ?_ ?_
  · intro hb
    try simp only [hB, decide_eq_true_eq, decide_eq_false_iff_not] at hb
    exfalso; simp at hb
  · intro hb
    try simp only [hB, decide_eq_true_eq, decide_eq_false_iff_not] at hb
    refine AW.skip ?_
    refine hK3 _ _ _ ?_; clear hK3
    refine AW.seq fun K5 hK5 => ?_
    refine AW.seq fun K6 hK6 => ?_
    refine AW.regionK 0 (fun _ => none) [0, 3, 5, 6] [3] ?_
    simp only [go_sem, reduceIte, reduceCtorEq, zA, zM, zE, zL, zD, zS, zP, zB, zI, zR, hrl, hlen, bools_len]
    repeat with_reducible refine cj ?_ ?_
    all_goals try first | omega
    refine hK6 _ _ _ ?_; clear hK6
    refine AW.block ?_
    refine AW.loopE (fun mm ee ss kk => ∃ (i g v : Nat), n - i = mm ∧ ee = [(0, .rsl 1 (rowsR t)), (3, .ptr ⟨3, g, none⟩ 0 0), (5, .int .i64 n), (6, .int .i64 (i : Nat))] ∧ ss = [(3, some ⟨g, v, 2, [[.int .i64 n, .rsl 1 (words W)]]⟩)] ∧ (i ≤ n ∧ frU t b n i = true)) ?_ ?_
    · refine ⟨_, 0, ?_, ?_, rfl, ?henv, ?hstore, ?hst⟩
      case henv =>
        repeat' (first | rfl | refine env_cons ?_ ?_ | refine st_cons ?_ ?_ ?_ ?_ | refine int_eq ?_ | refine bool_eq ?_ | refine rsl_eq ?_ | refine osl_eq ?_ | refine sl_eq ?_ ?_ ?_ | refine ptr_eq ?_ ?_ ?_ | refine agg_eq ?_ | refine es_cons ?_ ?_ | refine row_cons ?_ ?_)
        all_goals (first | (simp; done) | omega | (simp; omega))
      case hstore =>
        repeat' (first | rfl | refine env_cons ?_ ?_ | refine st_cons ?_ ?_ ?_ ?_ | refine int_eq ?_ | refine bool_eq ?_ | refine rsl_eq ?_ | refine osl_eq ?_ | refine sl_eq ?_ ?_ ?_ | refine ptr_eq ?_ ?_ ?_ | refine agg_eq ?_ | refine es_cons ?_ ?_ | refine row_cons ?_ ?_)
        all_goals (first | (simp; done) | omega | (simp; omega))
      case hst =>
        exact ⟨by omega, rfl⟩
    rintro mm ee ss kk ⟨i, g, v, rfl, rfl, rfl, hI⟩
    generalize hQl1 : thenQ _ _ = Ql1
    obtain ⟨hi, hfu⟩ := hI
    refine AW.seq fun K7 hK7 => ?_
    refine AW.seq fun K8 hK8 => ?_
    refine AW.regionK 0 (fun _ => none) [0, 3, 5, 6, 16] [3] ?_
    simp only [go_sem, reduceIte, reduceCtorEq, zA, zM, zE, zL, zD, zS, zP, zB, zI, zR, hrl, hlen, bools_len]
    repeat with_reducible refine cj ?_ ?_
    all_goals try first | omega
    refine hK8 _ _ _ ?_; clear hK8
    refine AW.cond rfl (by simp only [go_sem, reduceIte, reduceCtorEq, zA, zM, zE, zL, zD, zS, zP, zB, zI, zR]) ?_ ?_
    · intro hb
      try simp only [hB, decide_eq_true_eq, decide_eq_false_iff_not] at hb
      have hsu : frU t b n (i + 1) = (frU t b n i && frI t b i n) := by unfold frU; rw [List.range_succ, List.all_append]; simp
      have hh1 := hhr (i : Int) (by omega) (by omega)
      rw [Int.toNat_natCast] at hh1
      have hgr := rowsR_get (t := t) (i := i) (by omega)
      have hrw := hs.rowLen (i := i) (by omega)
      refine AW.skip ?_
      refine hK7 _ _ _ ?_; clear hK7
      refine AW.seq fun K9 hK9 => ?_
      refine AW.block ?_
      refine AW.seq fun K10 hK10 => ?_
      refine AW.regionK 0 (fun _ => none) [0, 3, 5, 6, 7] [3] ?_
      simp only [go_sem, reduceIte, reduceCtorEq, zA, zM, zE, zL, zD, zS, zP, zB, zI, zR, hrl, hlen, bools_len]
      repeat with_reducible refine cj ?_ ?_
      all_goals try first | omega
      refine hK10 _ _ _ ?_; clear hK10
      refine AW.block ?_
      refine AW.loopE (fun mm ee ss kk => ∃ (j g v : Nat), n - j = mm ∧ ee = [(0, .rsl 1 (rowsR t)), (3, .ptr ⟨3, g, none⟩ 0 0), (5, .int .i64 n), (6, .int .i64 (i : Nat)), (7, .int .i64 (j : Nat))] ∧ ss = [(3, some ⟨g, v, 2, [[.int .i64 n, .rsl 1 (words W)]]⟩)] ∧ (j ≤ n ∧ frI t b i j = true)) ?_ ?_
      · refine ⟨_, 0, ?_, ?_, rfl, ?henv, ?hstore, ?hst⟩
        case henv =>
          repeat' (first | rfl | refine env_cons ?_ ?_ | refine st_cons ?_ ?_ ?_ ?_ | refine int_eq ?_ | refine bool_eq ?_ | refine rsl_eq ?_ | refine osl_eq ?_ | refine sl_eq ?_ ?_ ?_ | refine ptr_eq ?_ ?_ ?_ | refine agg_eq ?_ | refine es_cons ?_ ?_ | refine row_cons ?_ ?_)
          all_goals (first | (simp; done) | omega | (simp; omega))
        case hstore =>
          repeat' (first | rfl | refine env_cons ?_ ?_ | refine st_cons ?_ ?_ ?_ ?_ | refine int_eq ?_ | refine bool_eq ?_ | refine rsl_eq ?_ | refine osl_eq ?_ | refine sl_eq ?_ ?_ ?_ | refine ptr_eq ?_ ?_ ?_ | refine agg_eq ?_ | refine es_cons ?_ ?_ | refine row_cons ?_ ?_)
          all_goals (first | (simp; done) | omega | (simp; omega))
        case hst =>
          exact ⟨by omega, rfl⟩
      rintro mm ee ss kk ⟨j, g, v, rfl, rfl, rfl, hI⟩
      generalize hQl2 : thenQ _ _ = Ql2
      obtain ⟨hj, hfi⟩ := hI
      refine AW.seq fun K11 hK11 => ?_
      refine AW.seq fun K12 hK12 => ?_
      refine AW.regionK 0 (fun _ => none) [0, 3, 5, 6, 7, 21] [3] ?_
      simp only [go_sem, reduceIte, reduceCtorEq, zA, zM, zE, zL, zD, zS, zP, zB, zI, zR, hrl, hlen, bools_len]
      repeat with_reducible refine cj ?_ ?_
      all_goals try first | omega
      refine hK12 _ _ _ ?_; clear hK12
      refine AW.cond rfl (by simp only [go_sem, reduceIte, reduceCtorEq, zA, zM, zE, zL, zD, zS, zP, zB, zI, zR]) ?_ ?_
      · intro hb
        try simp only [hB, decide_eq_true_eq, decide_eq_false_iff_not] at hb
        have hh2 := hhr (j : Int) (by omega) (by omega)
        rw [Int.toNat_natCast] at hh2
        have hgb := bools_getD (l := rowT t i) (i := j) (by omega)
        have hat : atT t i j = (rowT t i).getD j false := rfl
        rw [← hat] at hgb
        have hsi : frI t b i (j + 1) = (frI t b i j && !(b.getD i false && b.getD j false && atT t i j)) := by unfold frI; rw [List.range_succ, List.all_append]; simp
        refine AW.skip ?_
        refine hK11 _ _ _ ?_; clear hK11
        refine AW.seq fun K13 hK13 => ?_
        refine AW.block ?_
        refine AW.seq fun K14 hK14 => ?_
        refine AW.regionK 0 (fun ii => if ii = 2 then some (.reads false (.bool (b.getD i false))) else if ii = 6 then some (.reads false (.bool (b.getD j false))) else none) [0, 3, 5, 6, 7, 40] [3] ?_
        simp only [go_sem, reduceIte, reduceCtorEq, zA, zM, zE, zL, zD, zS, zP, zB, zI, zR, hrl, hlen, bools_len, hgr, hgb, hrw]
        repeat with_reducible refine cj ?_ ?_
        all_goals try first | (first | exact hh1 | exact hh2 | (intro hh; (repeat' apply And.intro) <;> first | exact hh | exact hh2 | omega)) | (intros; (repeat' apply And.intro) <;> first | assumption | (first | exact hh1 | exact hh2 | (intro hh; (repeat' apply And.intro) <;> first | exact hh | exact hh2 | omega))) | omega | exact ent (by kernel_rfl) | (intro hgd; exact absurd hgd (by decide)) | rfl | (simp only [go_sem, reduceIte, reduceCtorEq, zA, zM, zE, zL, zD, zS, zP, zB, zI, zR, hrl, hlen, bools_len, hgr, hgb, hrw]; done) | (intro _hgd; simp_all [go_sem]; done)
        refine hK14 _ _ _ ?_; clear hK14
        refine AW.cond rfl (by simp only [go_sem, reduceIte, reduceCtorEq, zA, zM, zE, zL, zD, zS, zP, zB, zI, zR]) ?_ ?_
        · intro hb
          try simp only [hB, decide_eq_true_eq, decide_eq_false_iff_not] at hb
          refine AW.seq fun K15 hK15 => ?_
          refine AW.regionK 0 (fun _ => none) [4] [] ?_
          simp only [go_sem, reduceIte, reduceCtorEq, zA, zM, zE, zL, zD, zS, zP, zB, zI, zR, hrl, hlen, bools_len]
          repeat with_reducible refine cj ?_ ?_
          all_goals try first | omega
          refine hK15 _ _ _ ?_; clear hK15
          refine AW.ret ?_
          rw [← hQl2]
          rw [← hQl1]
          rw [← hQr]
          simp only [go_sem, reduceIte, reduceCtorEq, zA, zM, zE, zL, zD, zS, zP, zB, zI, zR, hrl, hlen, bools_len]
          have hf2 : frU t b n n = false := by
            unfold frU
            rw [List.all_eq_false]
            refine ⟨i, List.mem_range.2 (by omega), ?_⟩
            have : frI t b i n = false := by
              unfold frI
              rw [List.all_eq_false]
              refine ⟨j, List.mem_range.2 (by omega), ?_⟩
              obtain ⟨⟨q1, q2⟩, q3⟩ := hb
              rw [q1, q2, q3]; simp
            rw [this]; simp
          exact Wk.of_eq (by rw [← hfa, hf2])
        · intro hb
          try simp only [hB, decide_eq_true_eq, decide_eq_false_iff_not] at hb
          refine AW.skip ?_
          refine hK13 _ _ _ ?_; clear hK13
          refine AW.regionK 0 (fun _ => none) [0, 3, 5, 6, 7] [3] ?_
          simp only [go_sem, reduceIte, reduceCtorEq, zA, zM, zE, zL, zD, zS, zP, zB, zI, zR, hrl, hlen, bools_len]
          repeat with_reducible refine cj ?_ ?_
          all_goals try first | omega
          rw [← hQl2]
          change Exists _
          refine ⟨_, ?hm, j + 1, ?_, ?_, rfl, ?henv, ?hstore, ?hst⟩
          case henv =>
            repeat' (first | rfl | refine env_cons ?_ ?_ | refine st_cons ?_ ?_ ?_ ?_ | refine int_eq ?_ | refine bool_eq ?_ | refine rsl_eq ?_ | refine osl_eq ?_ | refine sl_eq ?_ ?_ ?_ | refine ptr_eq ?_ ?_ ?_ | refine agg_eq ?_ | refine es_cons ?_ ?_ | refine row_cons ?_ ?_)
            all_goals (first | (simp; done) | omega | (simp; omega))
          case hstore =>
            repeat' (first | rfl | refine env_cons ?_ ?_ | refine st_cons ?_ ?_ ?_ ?_ | refine int_eq ?_ | refine bool_eq ?_ | refine rsl_eq ?_ | refine osl_eq ?_ | refine sl_eq ?_ ?_ ?_ | refine ptr_eq ?_ ?_ ?_ | refine agg_eq ?_ | refine es_cons ?_ ?_ | refine row_cons ?_ ?_)
            all_goals (first | (simp; done) | omega | (simp; omega))
          case hst =>
            exact ⟨by omega, by rw [hsi, hfi]; revert hb; cases b.getD i false <;> cases b.getD j false <;> cases atT t i j <;> simp⟩
          case hm => omega
      · intro hb
        try simp only [hB, decide_eq_true_eq, decide_eq_false_iff_not] at hb
        have hj2 : j = n := by omega
        rw [hj2] at hfi
        refine AW.keep [0, 3, 5, 6] [3] ?_
        try simp only [go_sem, reduceIte, reduceCtorEq, zA, zM, zE, zL, zD, zS, zP, zB, zI, zR]
        refine AW.exit ?_
        rw [← hQl2]
        refine hK9 _ _ _ ?_; clear hK9
        refine AW.regionK 0 (fun _ => none) [0, 3, 5, 6] [3] ?_
        simp only [go_sem, reduceIte, reduceCtorEq, zA, zM, zE, zL, zD, zS, zP, zB, zI, zR, hrl, hlen, bools_len]
        repeat with_reducible refine cj ?_ ?_
        all_goals try first | omega
        rw [← hQl1]
        change Exists _
        refine ⟨_, ?hm, i + 1, ?_, ?_, rfl, ?henv, ?hstore, ?hst⟩
        case henv =>
          repeat' (first | rfl | refine env_cons ?_ ?_ | refine st_cons ?_ ?_ ?_ ?_ | refine int_eq ?_ | refine bool_eq ?_ | refine rsl_eq ?_ | refine osl_eq ?_ | refine sl_eq ?_ ?_ ?_ | refine ptr_eq ?_ ?_ ?_ | refine agg_eq ?_ | refine es_cons ?_ ?_ | refine row_cons ?_ ?_)
          all_goals (first | (simp; done) | omega | (simp; omega))
        case hstore =>
          repeat' (first | rfl | refine env_cons ?_ ?_ | refine st_cons ?_ ?_ ?_ ?_ | refine int_eq ?_ | refine bool_eq ?_ | refine rsl_eq ?_ | refine osl_eq ?_ | refine sl_eq ?_ ?_ ?_ | refine ptr_eq ?_ ?_ ?_ | refine agg_eq ?_ | refine es_cons ?_ ?_ | refine row_cons ?_ ?_)
          all_goals (first | (simp; done) | omega | (simp; omega))
        case hst =>
          exact ⟨by omega, by rw [hsu, hfu, hfi]; rfl⟩
        case hm => omega
    · intro hb
      try simp only [hB, decide_eq_true_eq, decide_eq_false_iff_not] at hb
      refine AW.keep [] [] ?_
      try simp only [go_sem, reduceIte, reduceCtorEq, zA, zM, zE, zL, zD, zS, zP, zB, zI, zR]
      refine AW.exit ?_
      rw [← hQl1]
      refine hK5 _ _ _ ?_; clear hK5
      refine AW.seq fun K16 hK16 => ?_
      refine AW.regionK 0 (fun _ => none) [4] [] ?_
      simp only [go_sem, reduceIte, reduceCtorEq, zA, zM, zE, zL, zD, zS, zP, zB, zI, zR, hrl, hlen, bools_len]
      repeat with_reducible refine cj ?_ ?_
      all_goals try first | omega
      refine hK16 _ _ _ ?_; clear hK16
      refine AW.ret ?_
      rw [← hQr]
      simp only [go_sem, reduceIte, reduceCtorEq, zA, zM, zE, zL, zD, zS, zP, zB, zI, zR, hrl, hlen, bools_len]
      have hi2 : i = n := by omega
      rw [hi2] at hfu
      exact Wk.of_eq (by rw [← hfa, hfu])
theorem rchain_r (n : Nat) (t : List (List Bool)) (hs : Sq n t) (hn : n ≤ 512) (l : List Int) (hll : l.length ≤ 9223372036854775807) : Reads Tryd.prog 22 false [.rsl 1 (rowsR t), .rsl 1 (ints l)] (.bool (chainB n t l)) := by
  have hrl := rowsR_len t
  have hlen := hs.len
  refine Reads.body (rs := [.tmp 4]) Tryd.func22 rfl Tryd.ntmps22 rfl (by simp) ?_
  generalize hQr : retQ _ _ _ = Qr
  refine AW.seq fun K1 hK1 => ?_
  refine AW.regionK 0 (fun _ => none) [0, 1] [] ?_
  simp only [go_sem, reduceIte, reduceCtorEq, zA, zM, zE, zL, zD, zS, zP, zB, zI, zR, hrl, hlen, ints_len, bools_len]
  repeat with_reducible refine cj ?_ ?_
  all_goals try first | omega
  refine hK1 _ _ _ ?_; clear hK1
  refine AW.seq fun K2 hK2 => ?_
  refine AW.seq fun K3 hK3 => ?_
  refine AW.regionK 0 (fun _ => none) [0, 1, 5] [] ?_
  simp only [go_sem, reduceIte, reduceCtorEq, zA, zM, zE, zL, zD, zS, zP, zB, zI, zR, hrl, hlen, ints_len, bools_len]
  repeat with_reducible refine cj ?_ ?_
  all_goals try first | omega
  refine hK3 _ _ _ ?_; clear hK3
  refine AW.block ?_
  refine AW.loopE (fun mm ee ss kk => ∃ (j : Nat), l.length - j = mm ∧ ee = [(0, .rsl 1 (rowsR t)), (1, .rsl 1 (ints l)), (5, .int .i64 (j : Nat))] ∧ ss = [] ∧ (j ≤ l.length ∧ (l.take j).any (outB n) = false ∧ stepsB n t l j = true)) ?_ ?_
  · refine ⟨_, 0, rfl, ?henv, ?hstore, ?hst⟩
    case henv =>
      repeat' (first | rfl | refine env_cons ?_ ?_ | refine st_cons ?_ ?_ ?_ ?_ | refine int_eq ?_ | refine bool_eq ?_ | refine rsl_eq ?_ | refine osl_eq ?_ | refine sl_eq ?_ ?_ ?_ | refine ptr_eq ?_ ?_ ?_ | refine agg_eq ?_ | refine es_cons ?_ ?_ | refine row_cons ?_ ?_)
      all_goals (first | (simp; done) | omega | (simp; omega))
    case hstore =>
      repeat' (first | rfl | refine env_cons ?_ ?_ | refine st_cons ?_ ?_ ?_ ?_ | refine int_eq ?_ | refine bool_eq ?_ | refine rsl_eq ?_ | refine osl_eq ?_ | refine sl_eq ?_ ?_ ?_ | refine ptr_eq ?_ ?_ ?_ | refine agg_eq ?_ | refine es_cons ?_ ?_ | refine row_cons ?_ ?_)
      all_goals (first | (simp; done) | omega | (simp; omega))
    case hst =>
      exact ⟨by omega, by simp, rfl⟩
  rintro mm ee ss kk ⟨j, rfl, rfl, rfl, hI⟩
  generalize hQl1 : thenQ _ _ = Ql1
  obtain ⟨hj, hno, hst⟩ := hI
  refine AW.seq fun K4 hK4 => ?_
  refine AW.seq fun K5 hK5 => ?_
  refine AW.regionK 0 (fun _ => none) [0, 1, 5, 9] [] ?_
  simp only [go_sem, reduceIte, reduceCtorEq, zA, zM, zE, zL, zD, zS, zP, zB, zI, zR, hrl, hlen, ints_len, bools_len]
  repeat with_reducible refine cj ?_ ?_
  all_goals try first | omega
  refine hK5 _ _ _ ?_; clear hK5
  refine AW.cond rfl (by simp only [go_sem, reduceIte, reduceCtorEq, zA, zM, zE, zL, zD, zS, zP, zB, zI, zR]) ?_ ?_
  · intro hb
    try simp only [hB, decide_eq_true_eq, decide_eq_false_iff_not] at hb
    obtain ⟨x, hx⟩ := getI (l := l) (j := j) (by omega)
    have hgx := ints_get hx
    have hats := any_take_succ (p := outB n) hx
    have hss := stepsB_succ n t l j
    rw [hst, Bool.true_and] at hss
    have hxd : l.getD j 0 = x := getD_of hx 0
    rw [hxd] at hss
    have e1 : ((j : Int) - 1).toNat = j - 1 := by omega
    refine AW.skip ?_
    refine hK4 _ _ _ ?_; clear hK4
    refine AW.seq fun K6 hK6 => ?_
    refine AW.block ?_
    refine AW.seq fun K7 hK7 => ?_
    refine AW.seq fun K8 hK8 => ?_
    refine AW.regionK 0 (fun _ => none) [0, 1, 5, 25] [] ?_
    simp only [go_sem, reduceIte, reduceCtorEq, zA, zM, zE, zL, zD, zS, zP, zB, zI, zR, hrl, hlen, ints_len, bools_len, hgx]
    repeat with_reducible refine cj ?_ ?_
    all_goals try first | omega | (intros; (repeat' apply And.intro) <;> first | assumption | omega | decide) | (intro hgd; exact absurd hgd (by decide)) | rfl | (simp only [go_sem, reduceIte, reduceCtorEq, zA, zM, zE, zL, zD, zS, zP, zB, zI, zR, hrl, hlen, ints_len, bools_len, hgx]; done) | (intro _hgd; simp_all [go_sem]; done)
    refine hK8 _ _ _ ?_; clear hK8
    refine AW.cond rfl (by simp only [go_sem, reduceIte, reduceCtorEq, zA, zM, zE, zL, zD, zS, zP, zB, zI, zR]) ?_ ?_
    · intro hb
      try simp only [hB, decide_eq_true_eq, decide_eq_false_iff_not] at hb
      refine AW.seq fun K9 hK9 => ?_
      refine AW.regionK 0 (fun _ => none) [4] [] ?_
      simp only [go_sem, reduceIte, reduceCtorEq, zA, zM, zE, zL, zD, zS, zP, zB, zI, zR, hrl, hlen, ints_len, bools_len]
      repeat with_reducible refine cj ?_ ?_
      all_goals try first | omega
      refine hK9 _ _ _ ?_; clear hK9
      refine AW.ret ?_
      rw [← hQl1]
      rw [← hQr]
      simp only [go_sem, reduceIte, reduceCtorEq, zA, zM, zE, zL, zD, zS, zP, zB, zI, zR, hrl, hlen, ints_len, bools_len]
      have hf : l.any (outB n) = true := by
        rw [List.any_eq_true]
        exact ⟨x, List.mem_of_getElem? hx, by unfold outB; rcases hb with h | h <;> simp <;> omega⟩
      exact Wk.of_eq (by unfold chainB; rw [hf]; rfl)
    · intro hb
      try simp only [hB, decide_eq_true_eq, decide_eq_false_iff_not] at hb
      have hxr : 0 ≤ x ∧ x < (n : Int) := by omega
      have hox : outB n x = false := by unfold outB; simp; omega
      have hg0 : (ints l).getD (j - 1) [] = [.int .i64 (l.getD (j - 1) 0)] := ints_getD (by omega)
      have hy : 0 ≤ l.getD (j - 1) 0 ∧ l.getD (j - 1) 0 < (n : Int) := by
        by_cases h1 : j = 0
        · subst h1; rw [show (0 : Nat) - 1 = 0 from rfl, hxd]; exact hxr
        · rw [List.any_eq_false] at hno
          have hm : l.getD (j - 1) 0 ∈ l.take j := by
            rw [List.mem_take_iff_getElem]
            refine ⟨j - 1, by omega, ?_⟩
            rw [List.getD_eq_getElem?_getD, List.getElem?_eq_getElem (by omega)]; rfl
          have := hno _ hm
          unfold outB at this; simp only [Bool.or_eq_true, decide_eq_true_eq, not_or] at this; omega
      generalize hY : l.getD (j - 1) 0 = y at *
      have hgy := rowsR_get (t := t) (i := y.toNat) (by omega)
      have hrw := hs.rowLen (i := y.toNat) (by omega)
      have hgb := bools_getD (l := rowT t y.toNat) (i := x.toNat) (by omega)
      have hat : atT t y.toNat x.toNat = (rowT t y.toNat).getD x.toNat false := rfl
      rw [← hat] at hgb
      have hlb : lessB n t y x = atT t y.toNat x.toNat := by unfold lessB; rw [decide_eq_true hy.1, decide_eq_true hy.2, decide_eq_true hxr.1, decide_eq_true hxr.2]; rfl
      rw [hlb] at hss
      refine AW.skip ?_
      refine hK7 _ _ _ ?_; clear hK7
      refine AW.seq fun K10 hK10 => ?_
      refine AW.regionD mixed 0 (fun _ => none) [0, 1, 5, 44] [] ?_
      simp only [go_sem, reduceIte, reduceCtorEq, zA, zM, zE, zL, zD, zS, zP, zB, zI, zR, hrl, hlen, ints_len, bools_len, e1, hg0, hgx, hgy, hgb, hrw]
      repeat with_reducible refine cj ?_ ?_
      all_goals try first | ((intro hh; have hq := of_decide_eq_true hh; (repeat' apply And.intro) <;> first | exact hh | omega)) | (intros; (repeat' apply And.intro) <;> first | assumption | ((intro hh; have hq := of_decide_eq_true hh; (repeat' apply And.intro) <;> first | exact hh | omega))) | omega | exact chk (by kernel_rfl) | (intro hgd; exact absurd hgd (by decide)) | rfl | (simp only [go_sem, reduceIte, reduceCtorEq, zA, zM, zE, zL, zD, zS, zP, zB, zI, zR, hrl, hlen, ints_len, bools_len, e1, hg0, hgx, hgy, hgb, hrw]; done) | (intro _hgd; simp_all [go_sem]; done)
      refine hK10 _ _ _ ?_; clear hK10
      refine AW.cond rfl (by simp only [go_sem, reduceIte, reduceCtorEq, zA, zM, zE, zL, zD, zS, zP, zB, zI, zR]) ?_ ?_
      · intro hb
        try simp only [hB, decide_eq_true_eq, decide_eq_false_iff_not] at hb
        refine AW.seq fun K11 hK11 => ?_
        refine AW.regionK 0 (fun _ => none) [4] [] ?_
        simp only [go_sem, reduceIte, reduceCtorEq, zA, zM, zE, zL, zD, zS, zP, zB, zI, zR, hrl, hlen, ints_len, bools_len]
        repeat with_reducible refine cj ?_ ?_
        all_goals try first | omega
        refine hK11 _ _ _ ?_; clear hK11
        refine AW.ret ?_
        rw [← hQl1]
        rw [← hQr]
        simp only [go_sem, reduceIte, reduceCtorEq, zA, zM, zE, zL, zD, zS, zP, zB, zI, zR, hrl, hlen, ints_len, bools_len]
        have hf : stepsB n t l (j + 1) = false := by rw [hss, hb.2, decide_eq_false (by omega)]; rfl
        exact Wk.of_eq (by unfold chainB; rw [stepsB_false hf (by omega)]; simp)
      · intro hb
        try simp only [hB, decide_eq_true_eq, decide_eq_false_iff_not] at hb
        refine AW.skip ?_
        refine hK6 _ _ _ ?_; clear hK6
        refine AW.regionK 0 (fun _ => none) [0, 1, 5] [] ?_
        simp only [go_sem, reduceIte, reduceCtorEq, zA, zM, zE, zL, zD, zS, zP, zB, zI, zR, hrl, hlen, ints_len, bools_len]
        repeat with_reducible refine cj ?_ ?_
        all_goals try first | omega
        rw [← hQl1]
        change Exists _
        refine ⟨_, ?hm, j + 1, rfl, ?henv, ?hstore, ?hst⟩
        case henv =>
          repeat' (first | rfl | refine env_cons ?_ ?_ | refine st_cons ?_ ?_ ?_ ?_ | refine int_eq ?_ | refine bool_eq ?_ | refine rsl_eq ?_ | refine osl_eq ?_ | refine sl_eq ?_ ?_ ?_ | refine ptr_eq ?_ ?_ ?_ | refine agg_eq ?_ | refine es_cons ?_ ?_ | refine row_cons ?_ ?_)
          all_goals (first | (simp; done) | omega | (simp; omega))
        case hstore =>
          repeat' (first | rfl | refine env_cons ?_ ?_ | refine st_cons ?_ ?_ ?_ ?_ | refine int_eq ?_ | refine bool_eq ?_ | refine rsl_eq ?_ | refine osl_eq ?_ | refine sl_eq ?_ ?_ ?_ | refine ptr_eq ?_ ?_ ?_ | refine agg_eq ?_ | refine es_cons ?_ ?_ | refine row_cons ?_ ?_)
          all_goals (first | (simp; done) | omega | (simp; omega))
        case hst =>
          exact ⟨by omega, by rw [hats, hno, hox]; rfl, by rw [hss]; by_cases h : j = 0; simp [h]; rcases hb with hb | hb; omega; rw [hb]; simp⟩
        case hm => omega
  · intro hb
    try simp only [hB, decide_eq_true_eq, decide_eq_false_iff_not] at hb
    have hj2 : j = l.length := by omega
    rw [hj2] at hst hno
    rw [List.take_length] at hno
    refine AW.keep [] [] ?_
    try simp only [go_sem, reduceIte, reduceCtorEq, zA, zM, zE, zL, zD, zS, zP, zB, zI, zR]
    refine AW.exit ?_
    rw [← hQl1]
    refine hK2 _ _ _ ?_; clear hK2
    refine AW.seq fun K12 hK12 => ?_
    refine AW.regionK 0 (fun _ => none) [4] [] ?_
    simp only [go_sem, reduceIte, reduceCtorEq, zA, zM, zE, zL, zD, zS, zP, zB, zI, zR, hrl, hlen, ints_len, bools_len]
    repeat with_reducible refine cj ?_ ?_
    all_goals try first | omega
    refine hK12 _ _ _ ?_; clear hK12
    refine AW.ret ?_
    rw [← hQr]
    simp only [go_sem, reduceIte, reduceCtorEq, zA, zM, zE, zL, zD, zS, zP, zB, zI, zR, hrl, hlen, ints_len, bools_len]
    exact Wk.of_eq (by unfold chainB; rw [hno, hst]; rfl)
end Go.Proofs.W

namespace Go.Proofs.W
open Go.AM Go
set_option maxRecDepth 100000
set_option maxHeartbeats 2000000
theorem rpart_r (n : Nat) (t : List (List Bool)) (hs : Sq n t) (hn : n ≤ 512) (cs : List (List Int)) (hl : cs.length ≤ 100000) (hll : ∀ c ∈ cs, c.length ≤ 100000) : Reads Tryd.prog 23 false [.rsl 1 (rowsR t), .rsl 1 (M.nbR cs)] (.bool (partB n t cs)) := by
  have hrl := rowsR_len t
  have hlen := hs.len
  have hic := fun c h => rchain_r n t hs hn c h
  have hnl := M.nbR_len cs
  have hz : List.replicate n [AV.bool false] = bools (rowL n []) := by rw [rowL_nil]; simp [bools]
  refine Reads.body (rs := [.tmp 4]) Tryd.func23 rfl Tryd.ntmps23 rfl (by simp) ?_
  generalize hQr : retQ _ _ _ = Qr
  refine AW.seq fun K1 hK1 => ?_
  refine AW.regionK 0 (fun _ => none) [0, 1] [] ?_
  simp only [go_sem, reduceIte, reduceCtorEq, zA, zM, zE, zL, zD, zS, zP, zB, zI, zR, hrl, hlen, hnl, ints_len]
  repeat with_reducible refine cj ?_ ?_
  all_goals try first | omega
  refine hK1 _ _ _ ?_; clear hK1
  refine AW.seq fun K2 hK2 => ?_
  refine AW.regionK 0 (fun _ => none) [0, 1, 5] [11] ?_
  simp only [go_sem, reduceIte, reduceCtorEq, zA, zM, zE, zL, zD, zS, zP, zB, zI, zR, hrl, hlen, hnl, ints_len, hz]
  repeat with_reducible refine cj ?_ ?_
  all_goals try first | omega
  refine hK2 _ _ _ ?_; clear hK2
  refine AW.seq fun K3 hK3 => ?_
  refine AW.regionK 0 (fun _ => none) [0, 1, 5, 6] [11] ?_
  simp only [go_sem, reduceIte, reduceCtorEq, zA, zM, zE, zL, zD, zS, zP, zB, zI, zR, hrl, hlen, hnl, ints_len]
  repeat with_reducible refine cj ?_ ?_
  all_goals try first | omega
  refine hK3 _ _ _ ?_; clear hK3
  refine AW.seq fun K4 hK4 => ?_
  refine AW.seq fun K5 hK5 => ?_
  refine AW.regionK 0 (fun _ => none) [0, 1, 5, 6, 7] [11] ?_
  simp only [go_sem, reduceIte, reduceCtorEq, zA, zM, zE, zL, zD, zS, zP, zB, zI, zR, hrl, hlen, hnl, ints_len]
  repeat with_reducible refine cj ?_ ?_
  all_goals try first | omega
  refine hK5 _ _ _ ?_; clear hK5
  refine AW.block ?_
  refine AW.loopE (fun mm ee ss kk => ∃ (j g7 v7 : Nat), cs.length - j = mm ∧ ee = [(0, .rsl 1 (rowsR t)), (1, .rsl 1 (M.nbR cs)), (5, .sl ⟨11, g7, none⟩ 0 n none), (6, .int .i64 ((cs.take j).flatten.length : Nat)), (7, .int .i64 (j : Nat))] ∧ ss = [(11, some ⟨g7, v7, 1, bools (rowL n (cs.take j).flatten)⟩)] ∧ (j ≤ cs.length ∧ (cs.take j).all (okC n t) = true ∧ (cs.take j).flatten.Nodup ∧ ∀ x ∈ (cs.take j).flatten, 0 ≤ x ∧ x < (n : Int))) ?_ ?_
  · refine ⟨_, 0, ?_, ?_, rfl, ?henv, ?hstore, ?hst⟩
    case henv =>
      repeat' (first | rfl | refine env_cons ?_ ?_ | refine st_cons ?_ ?_ ?_ ?_ | refine int_eq ?_ | refine bool_eq ?_ | refine rsl_eq ?_ | refine osl_eq ?_ | refine sl_eq ?_ ?_ ?_ | refine ptr_eq ?_ ?_ ?_ | refine agg_eq ?_ | refine es_cons ?_ ?_ | refine row_cons ?_ ?_)
      all_goals (first | (simp; done) | omega | (simp; omega))
    case hstore =>
      repeat' (first | rfl | refine env_cons ?_ ?_ | refine st_cons ?_ ?_ ?_ ?_ | refine int_eq ?_ | refine bool_eq ?_ | refine rsl_eq ?_ | refine osl_eq ?_ | refine sl_eq ?_ ?_ ?_ | refine ptr_eq ?_ ?_ ?_ | refine agg_eq ?_ | refine es_cons ?_ ?_ | refine row_cons ?_ ?_)
      all_goals (first | (simp; done) | omega | (simp; omega))
    case hst =>
      exact ⟨by omega, by simp, by simp, by simp⟩
  rintro mm ee ss kk ⟨j, g7, v7, rfl, rfl, rfl, hI⟩
  generalize hQl1 : thenQ _ _ = Ql1
  obtain ⟨hj, hok, hnd, hrg⟩ := hI
  refine AW.seq fun K6 hK6 => ?_
  refine AW.seq fun K7 hK7 => ?_
  refine AW.regionK 0 (fun _ => none) [0, 1, 5, 6, 7, 15] [11] ?_
  simp only [go_sem, reduceIte, reduceCtorEq, zA, zM, zE, zL, zD, zS, zP, zB, zI, zR, hrl, hlen, hnl, ints_len]
  repeat with_reducible refine cj ?_ ?_
  all_goals try first | omega
  refine hK7 _ _ _ ?_; clear hK7
  refine AW.cond rfl (by simp only [go_sem, reduceIte, reduceCtorEq, zA, zM, zE, zL, zD, zS, zP, zB, zI, zR]) ?_ ?_
  · intro hb
    try simp only [hB, decide_eq_true_eq, decide_eq_false_iff_not] at hb
    obtain ⟨c, hcj⟩ := getI (l := cs) (j := j) (by omega)
    have hgc := M.nbR_get hcj
    have hcl := hll c (List.mem_of_getElem? hcj)
    have hcc := hic c (by omega)
    have htj : (cs.take (j + 1)) = cs.take j ++ [c] := by rw [List.take_add_one, hcj]; rfl
    have hats := all_take_succ (p := okC n t) hcj
    have hfl0 := nodup_rng hnd hrg
    refine AW.skip ?_
    refine hK6 _ _ _ ?_; clear hK6
    refine AW.seq fun K8 hK8 => ?_
    refine AW.block ?_
    refine AW.seq fun K9 hK9 => ?_
    refine AW.seq fun K10 hK10 => ?_
    refine AW.regionK 0 (fun ii => if ii = 12 then some (.reads false (.bool (chainB n t c))) else none) [0, 1, 5, 6, 7, 32] [11] ?_
    simp only [go_sem, reduceIte, reduceCtorEq, zA, zM, zE, zL, zD, zS, zP, zB, zI, zR, hrl, hlen, hnl, ints_len, hgc]
    repeat with_reducible refine cj ?_ ?_
    all_goals try first | (first | exact hcc | (intro hh; (repeat' apply And.intro) <;> first | exact hh | exact hcc | omega)) | (intros; (repeat' apply And.intro) <;> first | assumption | (first | exact hcc | (intro hh; (repeat' apply And.intro) <;> first | exact hh | exact hcc | omega))) | omega | exact ent (by kernel_rfl) | (intro hgd; exact absurd hgd (by decide)) | rfl | (simp only [go_sem, reduceIte, reduceCtorEq, zA, zM, zE, zL, zD, zS, zP, zB, zI, zR, hrl, hlen, hnl, ints_len, hgc]; done) | (intro _hgd; simp_all [go_sem]; done)
    refine hK10 _ _ _ ?_; clear hK10
    refine AW.cond rfl (by simp only [go_sem, reduceIte, reduceCtorEq, zA, zM, zE, zL, zD, zS, zP, zB, zI, zR]) ?_ ?_
    · intro hb
      try simp only [hB, decide_eq_true_eq, decide_eq_false_iff_not] at hb
      refine AW.seq fun K11 hK11 => ?_
      refine AW.regionK 0 (fun _ => none) [4] [] ?_
      simp only [go_sem, reduceIte, reduceCtorEq, zA, zM, zE, zL, zD, zS, zP, zB, zI, zR, hrl, hlen, hnl, ints_len]
      repeat with_reducible refine cj ?_ ?_
      all_goals try first | omega
      refine hK11 _ _ _ ?_; clear hK11
      refine AW.ret ?_
      rw [← hQl1]
      rw [← hQr]
      simp only [go_sem, reduceIte, reduceCtorEq, zA, zM, zE, zL, zD, zS, zP, zB, zI, zR, hrl, hlen, hnl, ints_len]
      have hf : partB n t cs = false := by
        have : cs.all (okC n t) = false := all_false_of hcj (by unfold okC; revert hb; cases chainB n t c <;> simp)
        unfold partB; rw [this]; rfl
      exact Wk.of_eq (by rw [hf])
    · intro hb
      try simp only [hB, decide_eq_true_eq, decide_eq_false_iff_not] at hb
      have hokc : okC n t c = true := by unfold okC; revert hb; cases chainB n t c <;> simp
      have hcr := okC_rng hokc
      clear hb
      refine AW.skip ?_
      refine hK9 _ _ _ ?_; clear hK9
      refine AW.seq fun K12 hK12 => ?_
      refine AW.regionK 0 (fun _ => none) [0, 1, 5, 6, 7, 8] [11] ?_
      simp only [go_sem, reduceIte, reduceCtorEq, zA, zM, zE, zL, zD, zS, zP, zB, zI, zR, hrl, hlen, hnl, ints_len]
      repeat with_reducible refine cj ?_ ?_
      all_goals try first | omega
      refine hK12 _ _ _ ?_; clear hK12
      refine AW.block ?_
      refine AW.loopE (fun mm ee ss kk => ∃ (k g7 v7 : Nat), c.length - k = mm ∧ ee = [(0, .rsl 1 (rowsR t)), (1, .rsl 1 (M.nbR cs)), (5, .sl ⟨11, g7, none⟩ 0 n none), (6, .int .i64 (((cs.take j).flatten ++ c.take k).length : Nat)), (7, .int .i64 (j : Nat)), (8, .int .i64 (k : Nat))] ∧ ss = [(11, some ⟨g7, v7, 1, bools (rowL n ((cs.take j).flatten ++ c.take k))⟩)] ∧ (k ≤ c.length ∧ ((cs.take j).flatten ++ c.take k).Nodup ∧ ∀ x ∈ ((cs.take j).flatten ++ c.take k), 0 ≤ x ∧ x < (n : Int))) ?_ ?_
      · refine ⟨_, 0, ?_, ?_, rfl, ?henv, ?hstore, ?hst⟩
        case henv =>
          repeat' (first | rfl | refine env_cons ?_ ?_ | refine st_cons ?_ ?_ ?_ ?_ | refine int_eq ?_ | refine bool_eq ?_ | refine rsl_eq ?_ | refine osl_eq ?_ | refine sl_eq ?_ ?_ ?_ | refine ptr_eq ?_ ?_ ?_ | refine agg_eq ?_ | refine es_cons ?_ ?_ | refine row_cons ?_ ?_)
          all_goals simp
        case hstore =>
          repeat' (first | rfl | refine env_cons ?_ ?_ | refine st_cons ?_ ?_ ?_ ?_ | refine int_eq ?_ | refine bool_eq ?_ | refine rsl_eq ?_ | refine osl_eq ?_ | refine sl_eq ?_ ?_ ?_ | refine ptr_eq ?_ ?_ ?_ | refine agg_eq ?_ | refine es_cons ?_ ?_ | refine row_cons ?_ ?_)
          all_goals simp
        case hst =>
          exact ⟨by omega, by simpa using hnd, by simpa using hrg⟩
      rintro mm ee ss kk ⟨k, g7, v7, rfl, rfl, rfl, hI⟩
      generalize hQl2 : thenQ _ _ = Ql2
      obtain ⟨hk, hnd2, hrg2⟩ := hI
      have hfl2 := nodup_rng hnd2 hrg2
      refine AW.seq fun K13 hK13 => ?_
      refine AW.seq fun K14 hK14 => ?_
      refine AW.regionK 0 (fun _ => none) [0, 1, 5, 6, 7, 8, 39] [11] ?_
      simp only [go_sem, reduceIte, reduceCtorEq, zA, zM, zE, zL, zD, zS, zP, zB, zI, zR, hrl, hlen, hnl, ints_len, hgc]
      repeat with_reducible refine cj ?_ ?_
      all_goals try first | omega
      refine hK14 _ _ _ ?_; clear hK14
      refine AW.cond rfl (by simp only [go_sem, reduceIte, reduceCtorEq, zA, zM, zE, zL, zD, zS, zP, zB, zI, zR]) ?_ ?_
      · intro hb
        try simp only [hB, decide_eq_true_eq, decide_eq_false_iff_not] at hb
        obtain ⟨x, hx⟩ := getI (l := c) (j := k) (by omega)
        have hgx := ints_get hx
        have hxr := hcr x (List.mem_of_getElem? hx)
        have hsp := flat_split hcj hx
        have htk : (cs.take j).flatten ++ c.take (k + 1) = ((cs.take j).flatten ++ c.take k) ++ [x] := by rw [List.take_add_one, hx]; simp
        generalize hF : (cs.take j).flatten ++ c.take k = F at *
        have hrl2 := rowL_len n F
        have hgs := bools_getD (l := rowL n F) (i := x.toNat) (by omega)
        rw [rowL_get (by omega), Int.toNat_of_nonneg hxr.1] at hgs
        have hus := bools_upd (rowL n F) x.toNat true
        rw [rowL_snoc hxr] at hus
        refine AW.skip ?_
        refine hK13 _ _ _ ?_; clear hK13
        refine AW.seq fun K15 hK15 => ?_
        refine AW.block ?_
        refine AW.seq fun K16 hK16 => ?_
        refine AW.seq fun K17 hK17 => ?_
        refine AW.regionK 0 (fun _ => none) [0, 1, 5, 6, 7, 8, 51] [11] ?_
        simp only [go_sem, reduceIte, reduceCtorEq, zA, zM, zE, zL, zD, zS, zP, zB, zI, zR, hrl, hlen, hnl, ints_len, hgc, hgx, bools_len, hrl2, hgs]
        repeat with_reducible refine cj ?_ ?_
        all_goals try first | omega
        refine hK17 _ _ _ ?_; clear hK17
        refine AW.cond rfl (by simp only [go_sem, reduceIte, reduceCtorEq, zA, zM, zE, zL, zD, zS, zP, zB, zI, zR]) ?_ ?_
        · intro hb
          try simp only [hB, decide_eq_true_eq, decide_eq_false_iff_not] at hb
          refine AW.seq fun K18 hK18 => ?_
          refine AW.regionK 0 (fun _ => none) [4] [] ?_
          simp only [go_sem, reduceIte, reduceCtorEq, zA, zM, zE, zL, zD, zS, zP, zB, zI, zR, hrl, hlen, hnl, ints_len]
          repeat with_reducible refine cj ?_ ?_
          all_goals try first | omega
          refine hK18 _ _ _ ?_; clear hK18
          refine AW.ret ?_
          rw [← hQl2]
          rw [← hQl1]
          rw [← hQr]
          simp only [go_sem, reduceIte, reduceCtorEq, zA, zM, zE, zL, zD, zS, zP, zB, zI, zR, hrl, hlen, hnl, ints_len]
          have hf : partB n t cs = false := by
            have : decide cs.flatten.Nodup = false := decide_eq_false (by rw [hsp]; exact not_nodup_at hb)
            unfold partB; rw [this]; simp
          exact Wk.of_eq (by rw [hf])
        · intro hb
          try simp only [hB, decide_eq_true_eq, decide_eq_false_iff_not] at hb
          refine AW.skip ?_
          refine hK16 _ _ _ ?_; clear hK16
          refine AW.seq fun K19 hK19 => ?_
          refine AW.regionK 0 (fun _ => none) [0, 1, 5, 6, 7, 8] [11] ?_
          simp only [go_sem, reduceIte, reduceCtorEq, zA, zM, zE, zL, zD, zS, zP, zB, zI, zR, hrl, hlen, hnl, ints_len, hgc, hgx, bools_len, hrl2, hus]
          repeat with_reducible refine cj ?_ ?_
          all_goals try first | omega
          refine hK19 _ _ _ ?_; clear hK19
          refine AW.regionK 0 (fun _ => none) [0, 1, 5, 6, 7, 8] [11] ?_
          simp only [go_sem, reduceIte, reduceCtorEq, zA, zM, zE, zL, zD, zS, zP, zB, zI, zR, hrl, hlen, hnl, ints_len]
          repeat with_reducible refine cj ?_ ?_
          all_goals try first | omega
          refine hK15 _ _ _ ?_; clear hK15
          refine AW.regionK 0 (fun _ => none) [0, 1, 5, 6, 7, 8] [11] ?_
          simp only [go_sem, reduceIte, reduceCtorEq, zA, zM, zE, zL, zD, zS, zP, zB, zI, zR, hrl, hlen, hnl, ints_len]
          repeat with_reducible refine cj ?_ ?_
          all_goals try first | omega
          rw [← hQl2]
          change Exists _
          refine ⟨_, ?hm, k + 1, ?_, ?_, rfl, ?henv, ?hstore, ?hst⟩
          case henv =>
            repeat' (first | rfl | refine env_cons ?_ ?_ | refine st_cons ?_ ?_ ?_ ?_ | refine int_eq ?_ | refine bool_eq ?_ | refine rsl_eq ?_ | refine osl_eq ?_ | refine sl_eq ?_ ?_ ?_ | refine ptr_eq ?_ ?_ ?_ | refine agg_eq ?_ | refine es_cons ?_ ?_ | refine row_cons ?_ ?_)
            all_goals (first | (rw [htk]; simp; done) | (simp; done) | omega)
          case hstore =>
            repeat' (first | rfl | refine env_cons ?_ ?_ | refine st_cons ?_ ?_ ?_ ?_ | refine int_eq ?_ | refine bool_eq ?_ | refine rsl_eq ?_ | refine osl_eq ?_ | refine sl_eq ?_ ?_ ?_ | refine ptr_eq ?_ ?_ ?_ | refine agg_eq ?_ | refine es_cons ?_ ?_ | refine row_cons ?_ ?_)
            all_goals (rw [htk])
          case hst =>
            rw [htk]
            refine ⟨by omega, List.nodup_append.2 ⟨hnd2, by simp, ?_⟩, fun y hy => ?_⟩
            · intro a ha z hz e
              simp only [List.mem_singleton] at hz
              subst hz; subst e; exact hb ha
            · rcases List.mem_append.1 hy with h | h
              · exact hrg2 y h
              · simp only [List.mem_singleton] at h
                rw [h]; exact hxr
          case hm => omega
      · intro hb
        try simp only [hB, decide_eq_true_eq, decide_eq_false_iff_not] at hb
        have hk2 : k = c.length := by omega
        have hfe : (cs.take j).flatten ++ c.take k = (cs.take (j + 1)).flatten := by rw [hk2, List.take_length, htj]; simp
        rw [hfe] at hnd2 hrg2 hfl2 ⊢
        refine AW.keep [0, 1, 5, 6, 7] [11] ?_
        try simp only [go_sem, reduceIte, reduceCtorEq, zA, zM, zE, zL, zD, zS, zP, zB, zI, zR]
        refine AW.exit ?_
        rw [← hQl2]
        refine hK8 _ _ _ ?_; clear hK8
        refine AW.regionK 0 (fun _ => none) [0, 1, 5, 6, 7] [11] ?_
        simp only [go_sem, reduceIte, reduceCtorEq, zA, zM, zE, zL, zD, zS, zP, zB, zI, zR, hrl, hlen, hnl, ints_len]
        repeat with_reducible refine cj ?_ ?_
        all_goals try first | omega
        rw [← hQl1]
        change Exists _
        refine ⟨_, ?hm, j + 1, ?_, ?_, rfl, ?henv, ?hstore, ?hst⟩
        case henv =>
          repeat' (first | rfl | refine env_cons ?_ ?_ | refine st_cons ?_ ?_ ?_ ?_ | refine int_eq ?_ | refine bool_eq ?_ | refine rsl_eq ?_ | refine osl_eq ?_ | refine sl_eq ?_ ?_ ?_ | refine ptr_eq ?_ ?_ ?_ | refine agg_eq ?_ | refine es_cons ?_ ?_ | refine row_cons ?_ ?_)
          all_goals (first | (simp; done) | omega | (simp; omega))
        case hstore =>
          repeat' (first | rfl | refine env_cons ?_ ?_ | refine st_cons ?_ ?_ ?_ ?_ | refine int_eq ?_ | refine bool_eq ?_ | refine rsl_eq ?_ | refine osl_eq ?_ | refine sl_eq ?_ ?_ ?_ | refine ptr_eq ?_ ?_ ?_ | refine agg_eq ?_ | refine es_cons ?_ ?_ | refine row_cons ?_ ?_)
          all_goals (first | (simp; done) | omega | (simp; omega))
        case hst =>
          exact ⟨by omega, by rw [hats, hok, hokc]; rfl, hnd2, hrg2⟩
        case hm => omega
  · intro hb
    try simp only [hB, decide_eq_true_eq, decide_eq_false_iff_not] at hb
    have hj2 : j = cs.length := by omega
    rw [hj2, List.take_length] at hok hnd hrg ⊢
    refine AW.keep [0, 6] [] ?_
    try simp only [go_sem, reduceIte, reduceCtorEq, zA, zM, zE, zL, zD, zS, zP, zB, zI, zR]
    refine AW.exit ?_
    rw [← hQl1]
    refine hK4 _ _ _ ?_; clear hK4
    refine AW.seq fun K20 hK20 => ?_
    refine AW.regionK 0 (fun _ => none) [4] [] ?_
    simp only [go_sem, reduceIte, reduceCtorEq, zA, zM, zE, zL, zD, zS, zP, zB, zI, zR, hrl, hlen, hnl, ints_len]
    repeat with_reducible refine cj ?_ ?_
    all_goals try first | omega
    refine hK20 _ _ _ ?_; clear hK20
    refine AW.ret ?_
    rw [← hQr]
    simp only [go_sem, reduceIte, reduceCtorEq, zA, zM, zE, zL, zD, zS, zP, zB, zI, zR, hrl, hlen, hnl, ints_len]
    exact Wk.of_eq (by unfold partB; rw [hok, decide_eq_true hnd]; simp only [Bool.true_and]; congr 1; exact decide_eq_decide.2 (by omega))
theorem rval_e (rs : List USet) (hl : longR rs) (hv : validR rs = false) : Reads Tryd.prog 16 false [relV rs] (.bool false) := by
  have h := R.rrvalid_r rs hl.1 hl.2
  rw [hv] at h
  unfold relV at *
  refine Reads.body (rs := [.tmp 2]) Tryd.func16 rfl Tryd.ntmps16 rfl (by simp) ?_
  generalize hQr : retQ _ _ _ = Qr
  refine AW.seq fun K1 hK1 => ?_
  refine AW.regionK 0 (fun _ => none) [1] [1] ?_
  simp only [go_sem, reduceIte, reduceCtorEq, zA, zM, zE, zL, zD, zS, zP, zB, zI, zR]
  repeat with_reducible refine cj ?_ ?_
  all_goals try first | omega
  refine hK1 _ _ _ ?_; clear hK1
  refine AW.seq fun K2 hK2 => ?_
  refine AW.seq fun K3 hK3 => ?_
  refine AW.regionK 0 (fun ii => if ii = 1 then some (.reads false (.bool false)) else none) [1, 9] [1] ?_
  simp only [go_sem, reduceIte, reduceCtorEq, zA, zM, zE, zL, zD, zS, zP, zB, zI, zR]
  repeat with_reducible refine cj ?_ ?_
  all_goals try first | (exact h) | omega | exact ent (by kernel_rfl)
  refine hK3 _ _ _ ?_; clear hK3
  refine AW.cond rfl (by simp only [go_sem, reduceIte, reduceCtorEq, zA, zM, zE, zL, zD, zS, zP, zB, zI, zR]) ?_ ?_
  · intro hb
    try simp only [hB, decide_eq_true_eq, decide_eq_false_iff_not] at hb
    refine AW.seq fun K4 hK4 => ?_
    refine AW.regionK 0 (fun _ => none) [2] [] ?_
    simp only [go_sem, reduceIte, reduceCtorEq, zA, zM, zE, zL, zD, zS, zP, zB, zI, zR]
    repeat with_reducible refine cj ?_ ?_
    all_goals try first | omega
    refine hK4 _ _ _ ?_; clear hK4
    refine AW.ret ?_
    rw [← hQr]
    simp only [go_sem, reduceIte, reduceCtorEq, zA, zM, zE, zL, zD, zS, zP, zB, zI, zR]
    exact Wk.refl _
  · intro hb
    try simp only [hB, decide_eq_true_eq, decide_eq_false_iff_not] at hb
    exfalso; simp at hb
theorem rval_g (n : Nat) (t : List (List Bool)) (hs : Sq n t) (hn : n ≤ 512) : Reads Tryd.prog 16 false [relB t] (.bool (poB n t)) := by
  have hlen := hs.len
  have hlm : (t.map SB).length = n := by simp [hlen]
  have hW : ∀ x ∈ t.map SB, x.W.length ≤ 9223372036854775807 := fun x hx => by
    obtain ⟨b, hb, rfl⟩ := List.mem_map.1 hx
    have := setB_len (b := b) (by rw [hs.row b hb]; exact hn)
    simp only [SB]; omega
  have h := R.rrvalid_r (t.map SB) (by omega) hW
  rw [valid_tab hs hn, ← relB_SB] at h
  have ht := (R.table_r n t hs hn).old
  have hrl := rowsR_len t
  have hpo := poB_iff hs
  unfold relB at *
  refine Reads.body (rs := [.tmp 2]) Tryd.func16 rfl Tryd.ntmps16 rfl (by simp) ?_
  generalize hQr : retQ _ _ _ = Qr
  refine AW.seq fun K1 hK1 => ?_
  refine AW.regionK 0 (fun _ => none) [1] [1] ?_
  simp only [go_sem, reduceIte, reduceCtorEq, zA, zM, zE, zL, zD, zS, zP, zB, zI, zR, hrl, hlen, bools_len]
  repeat with_reducible refine cj ?_ ?_
  all_goals try first | omega
  refine hK1 _ _ _ ?_; clear hK1
  refine AW.seq fun K2 hK2 => ?_
  refine AW.seq fun K3 hK3 => ?_
  refine AW.regionK 0 (fun ii => if ii = 1 then some (.reads false (.bool true)) else none) [1, 9] [1] ?_
  simp only [go_sem, reduceIte, reduceCtorEq, zA, zM, zE, zL, zD, zS, zP, zB, zI, zR, hrl, hlen, bools_len]
  repeat with_reducible refine cj ?_ ?_
  all_goals try first | (exact h) | omega | exact ent (by kernel_rfl)
  refine hK3 _ _ _ ?_; clear hK3
  refine AW.cond rfl (by simp only [go_sem, reduceIte, reduceCtorEq, zA, zM, zE, zL, zD, zS, zP, zB, zI, zR]) ?_ ?_
  · intro hb
    try simp only [hB, decide_eq_true_eq, decide_eq_false_iff_not] at hb
    exfalso; simp at hb
  · intro hb
    try simp only [hB, decide_eq_true_eq, decide_eq_false_iff_not] at hb
    refine AW.skip ?_
    refine hK2 _ _ _ ?_; clear hK2
    refine AW.seq fun K4 hK4 => ?_
    refine AW.regionK 0 (fun ii => if ii = 1 then some (.reads false (.rsl 1 (rowsR t))) else none) [3] [] ?_
    simp only [go_sem, reduceIte, reduceCtorEq, zA, zM, zE, zL, zD, zS, zP, zB, zI, zR, hrl, hlen, bools_len]
    repeat with_reducible refine cj ?_ ?_
    all_goals try first | (exact ht) | omega | exact ent (by kernel_rfl)
    refine hK4 _ _ _ ?_; clear hK4
    refine AW.seq fun K5 hK5 => ?_
    refine AW.seq fun K6 hK6 => ?_
    refine AW.regionK 0 (fun _ => none) [3, 4] [] ?_
    simp only [go_sem, reduceIte, reduceCtorEq, zA, zM, zE, zL, zD, zS, zP, zB, zI, zR, hrl, hlen, bools_len]
    repeat with_reducible refine cj ?_ ?_
    all_goals try first | omega
    refine hK6 _ _ _ ?_; clear hK6
    refine AW.block ?_
    refine AW.loopE (fun mm ee ss kk => ∃ (i : Nat), n - i = mm ∧ ee = [(3, .rsl 1 (rowsR t)), (4, .int .i64 (i : Nat))] ∧ ss = [] ∧ (i ≤ n ∧ ∀ a, a < i → atT t a a = false ∧ ∀ b c, b < n → c < n → atT t a b = true → atT t b c = true → atT t a c = true)) ?_ ?_
    · refine ⟨_, 0, rfl, ?henv, ?hstore, ?hst⟩
      case henv =>
        repeat' (first | rfl | refine env_cons ?_ ?_ | refine st_cons ?_ ?_ ?_ ?_ | refine int_eq ?_ | refine bool_eq ?_ | refine rsl_eq ?_ | refine osl_eq ?_ | refine sl_eq ?_ ?_ ?_ | refine ptr_eq ?_ ?_ ?_ | refine agg_eq ?_ | refine es_cons ?_ ?_ | refine row_cons ?_ ?_)
        all_goals (first | (simp; done) | omega | (simp; omega))
      case hstore =>
        repeat' (first | rfl | refine env_cons ?_ ?_ | refine st_cons ?_ ?_ ?_ ?_ | refine int_eq ?_ | refine bool_eq ?_ | refine rsl_eq ?_ | refine osl_eq ?_ | refine sl_eq ?_ ?_ ?_ | refine ptr_eq ?_ ?_ ?_ | refine agg_eq ?_ | refine es_cons ?_ ?_ | refine row_cons ?_ ?_)
        all_goals (first | (simp; done) | omega | (simp; omega))
      case hst =>
        exact ⟨by omega, fun a ha => by omega⟩
    rintro mm ee ss kk ⟨i, rfl, rfl, rfl, hI⟩
    generalize hQl1 : thenQ _ _ = Ql1
    obtain ⟨hi, hal⟩ := hI
    refine AW.seq fun K7 hK7 => ?_
    refine AW.seq fun K8 hK8 => ?_
    refine AW.regionK 0 (fun _ => none) [3, 4, 15] [] ?_
    simp only [go_sem, reduceIte, reduceCtorEq, zA, zM, zE, zL, zD, zS, zP, zB, zI, zR, hrl, hlen, bools_len]
    repeat with_reducible refine cj ?_ ?_
    all_goals try first | omega
    refine hK8 _ _ _ ?_; clear hK8
    refine AW.cond rfl (by simp only [go_sem, reduceIte, reduceCtorEq, zA, zM, zE, zL, zD, zS, zP, zB, zI, zR]) ?_ ?_
    · intro hb
      try simp only [hB, decide_eq_true_eq, decide_eq_false_iff_not] at hb
      have hgi := rowsR_get (t := t) (i := i) (by omega)
      have hri := hs.rowLen (i := i) (by omega)
      have hgii := bools_getD (l := rowT t i) (i := i) (by omega)
      have hat : atT t i i = (rowT t i).getD i false := rfl
      rw [← hat] at hgii
      refine AW.skip ?_
      refine hK7 _ _ _ ?_; clear hK7
      refine AW.seq fun K9 hK9 => ?_
      refine AW.block ?_
      refine AW.seq fun K10 hK10 => ?_
      refine AW.seq fun K11 hK11 => ?_
      refine AW.regionK 0 (fun _ => none) [3, 4, 24] [] ?_
      simp only [go_sem, reduceIte, reduceCtorEq, zA, zM, zE, zL, zD, zS, zP, zB, zI, zR, hrl, hlen, bools_len, hgi, hri, hgii]
      repeat with_reducible refine cj ?_ ?_
      all_goals try first | omega
      refine hK11 _ _ _ ?_; clear hK11
      refine AW.cond rfl (by simp only [go_sem, reduceIte, reduceCtorEq, zA, zM, zE, zL, zD, zS, zP, zB, zI, zR]) ?_ ?_
      · intro hb
        try simp only [hB, decide_eq_true_eq, decide_eq_false_iff_not] at hb
        refine AW.seq fun K12 hK12 => ?_
        refine AW.regionK 0 (fun _ => none) [2] [] ?_
        simp only [go_sem, reduceIte, reduceCtorEq, zA, zM, zE, zL, zD, zS, zP, zB, zI, zR, hrl, hlen, bools_len]
        repeat with_reducible refine cj ?_ ?_
        all_goals try first | omega
        refine hK12 _ _ _ ?_; clear hK12
        refine AW.ret ?_
        rw [← hQl1]
        rw [← hQr]
        simp only [go_sem, reduceIte, reduceCtorEq, zA, zM, zE, zL, zD, zS, zP, zB, zI, zR, hrl, hlen, bools_len]
        have hf : poB n t = false := by
          cases e : poB n t with
          | false => rfl
          | true => have := (hpo.1 e).irr i (by omega); rw [hb] at this; cases this
        exact Wk.of_eq (by rw [hf])
      · intro hb
        try simp only [hB, decide_eq_true_eq, decide_eq_false_iff_not] at hb
        have hir : atT t i i = false := by simpa using hb
        clear hb
        refine AW.skip ?_
        refine hK10 _ _ _ ?_; clear hK10
        refine AW.seq fun K13 hK13 => ?_
        refine AW.regionK 0 (fun _ => none) [3, 4, 5] [] ?_
        simp only [go_sem, reduceIte, reduceCtorEq, zA, zM, zE, zL, zD, zS, zP, zB, zI, zR, hrl, hlen, bools_len]
        repeat with_reducible refine cj ?_ ?_
        all_goals try first | omega
        refine hK13 _ _ _ ?_; clear hK13
        refine AW.block ?_
        refine AW.loopE (fun mm ee ss kk => ∃ (j : Nat), n - j = mm ∧ ee = [(3, .rsl 1 (rowsR t)), (4, .int .i64 (i : Nat)), (5, .int .i64 (j : Nat))] ∧ ss = [] ∧ (j ≤ n ∧ ∀ b c, b < j → c < n → atT t i b = true → atT t b c = true → atT t i c = true)) ?_ ?_
        · refine ⟨_, 0, rfl, ?henv, ?hstore, ?hst⟩
          case henv =>
            repeat' (first | rfl | refine env_cons ?_ ?_ | refine st_cons ?_ ?_ ?_ ?_ | refine int_eq ?_ | refine bool_eq ?_ | refine rsl_eq ?_ | refine osl_eq ?_ | refine sl_eq ?_ ?_ ?_ | refine ptr_eq ?_ ?_ ?_ | refine agg_eq ?_ | refine es_cons ?_ ?_ | refine row_cons ?_ ?_)
            all_goals (first | (simp; done) | omega | (simp; omega))
          case hstore =>
            repeat' (first | rfl | refine env_cons ?_ ?_ | refine st_cons ?_ ?_ ?_ ?_ | refine int_eq ?_ | refine bool_eq ?_ | refine rsl_eq ?_ | refine osl_eq ?_ | refine sl_eq ?_ ?_ ?_ | refine ptr_eq ?_ ?_ ?_ | refine agg_eq ?_ | refine es_cons ?_ ?_ | refine row_cons ?_ ?_)
            all_goals (first | (simp; done) | omega | (simp; omega))
          case hst =>
            exact ⟨by omega, fun b c hb => by omega⟩
        rintro mm ee ss kk ⟨j, rfl, rfl, rfl, hI⟩
        generalize hQl2 : thenQ _ _ = Ql2
        obtain ⟨hj, hal2⟩ := hI
        refine AW.seq fun K14 hK14 => ?_
        refine AW.seq fun K15 hK15 => ?_
        refine AW.regionK 0 (fun _ => none) [3, 4, 5, 28] [] ?_
        simp only [go_sem, reduceIte, reduceCtorEq, zA, zM, zE, zL, zD, zS, zP, zB, zI, zR, hrl, hlen, bools_len]
        repeat with_reducible refine cj ?_ ?_
        all_goals try first | omega
        refine hK15 _ _ _ ?_; clear hK15
        refine AW.cond rfl (by simp only [go_sem, reduceIte, reduceCtorEq, zA, zM, zE, zL, zD, zS, zP, zB, zI, zR]) ?_ ?_
        · intro hb
          try simp only [hB, decide_eq_true_eq, decide_eq_false_iff_not] at hb
          have hgj := rowsR_get (t := t) (i := j) (by omega)
          have hrj := hs.rowLen (i := j) (by omega)
          have hgij := bools_getD (l := rowT t i) (i := j) (by omega)
          have hatij : atT t i j = (rowT t i).getD j false := rfl
          rw [← hatij] at hgij
          refine AW.skip ?_
          refine hK14 _ _ _ ?_; clear hK14
          refine AW.seq fun K16 hK16 => ?_
          refine AW.block ?_
          refine AW.seq fun K17 hK17 => ?_
          refine AW.regionK 0 (fun _ => none) [3, 4, 5, 6] [] ?_
          simp only [go_sem, reduceIte, reduceCtorEq, zA, zM, zE, zL, zD, zS, zP, zB, zI, zR, hrl, hlen, bools_len]
          repeat with_reducible refine cj ?_ ?_
          all_goals try first | omega
          refine hK17 _ _ _ ?_; clear hK17
          refine AW.block ?_
          refine AW.loopE (fun mm ee ss kk => ∃ (k : Nat), n - k = mm ∧ ee = [(3, .rsl 1 (rowsR t)), (4, .int .i64 (i : Nat)), (5, .int .i64 (j : Nat)), (6, .int .i64 (k : Nat))] ∧ ss = [] ∧ (k ≤ n ∧ ∀ c, c < k → atT t i j = true → atT t j c = true → atT t i c = true)) ?_ ?_
          · refine ⟨_, 0, rfl, ?henv, ?hstore, ?hst⟩
            case henv =>
              repeat' (first | rfl | refine env_cons ?_ ?_ | refine st_cons ?_ ?_ ?_ ?_ | refine int_eq ?_ | refine bool_eq ?_ | refine rsl_eq ?_ | refine osl_eq ?_ | refine sl_eq ?_ ?_ ?_ | refine ptr_eq ?_ ?_ ?_ | refine agg_eq ?_ | refine es_cons ?_ ?_ | refine row_cons ?_ ?_)
              all_goals (first | (simp; done) | omega | (simp; omega))
            case hstore =>
              repeat' (first | rfl | refine env_cons ?_ ?_ | refine st_cons ?_ ?_ ?_ ?_ | refine int_eq ?_ | refine bool_eq ?_ | refine rsl_eq ?_ | refine osl_eq ?_ | refine sl_eq ?_ ?_ ?_ | refine ptr_eq ?_ ?_ ?_ | refine agg_eq ?_ | refine es_cons ?_ ?_ | refine row_cons ?_ ?_)
              all_goals (first | (simp; done) | omega | (simp; omega))
            case hst =>
              exact ⟨by omega, fun c hc => by omega⟩
          rintro mm ee ss kk ⟨k, rfl, rfl, rfl, hI⟩
          generalize hQl3 : thenQ _ _ = Ql3
          obtain ⟨hk, hal3⟩ := hI
          refine AW.seq fun K18 hK18 => ?_
          refine AW.seq fun K19 hK19 => ?_
          refine AW.regionK 0 (fun _ => none) [3, 4, 5, 6, 34] [] ?_
          simp only [go_sem, reduceIte, reduceCtorEq, zA, zM, zE, zL, zD, zS, zP, zB, zI, zR, hrl, hlen, bools_len]
          repeat with_reducible refine cj ?_ ?_
          all_goals try first | omega
          refine hK19 _ _ _ ?_; clear hK19
          refine AW.cond rfl (by simp only [go_sem, reduceIte, reduceCtorEq, zA, zM, zE, zL, zD, zS, zP, zB, zI, zR]) ?_ ?_
          · intro hb
            try simp only [hB, decide_eq_true_eq, decide_eq_false_iff_not] at hb
            have hgjk := bools_getD (l := rowT t j) (i := k) (by omega)
            have hgik := bools_getD (l := rowT t i) (i := k) (by omega)
            have hatjk : atT t j k = (rowT t j).getD k false := rfl
            have hatik : atT t i k = (rowT t i).getD k false := rfl
            rw [← hatjk] at hgjk
            rw [← hatik] at hgik
            refine AW.skip ?_
            refine hK18 _ _ _ ?_; clear hK18
            refine AW.seq fun K20 hK20 => ?_
            refine AW.block ?_
            refine AW.seq fun K21 hK21 => ?_
            refine AW.regionK 0 (fun _ => none) [3, 4, 5, 6, 62] [] ?_
            simp only [go_sem, reduceIte, reduceCtorEq, zA, zM, zE, zL, zD, zS, zP, zB, zI, zR, hrl, hlen, bools_len, hgi, hri, hgj, hrj, hgij, hgjk, hgik]
            repeat with_reducible refine cj ?_ ?_
            all_goals try first | ((intro hh; (repeat' apply And.intro) <;> first | exact hh | omega)) | (intros; (repeat' apply And.intro) <;> first | assumption | ((intro hh; (repeat' apply And.intro) <;> first | exact hh | omega))) | omega | (intro hgd; exact absurd hgd (by decide)) | rfl | (simp only [go_sem, reduceIte, reduceCtorEq, zA, zM, zE, zL, zD, zS, zP, zB, zI, zR, hrl, hlen, bools_len, hgi, hri, hgj, hrj, hgij, hgjk, hgik]; done) | (intro _hgd; simp_all [go_sem]; done)
            refine hK21 _ _ _ ?_; clear hK21
            refine AW.cond rfl (by simp only [go_sem, reduceIte, reduceCtorEq, zA, zM, zE, zL, zD, zS, zP, zB, zI, zR]) ?_ ?_
            · intro hb
              try simp only [hB, decide_eq_true_eq, decide_eq_false_iff_not] at hb
              refine AW.seq fun K22 hK22 => ?_
              refine AW.regionK 0 (fun _ => none) [2] [] ?_
              simp only [go_sem, reduceIte, reduceCtorEq, zA, zM, zE, zL, zD, zS, zP, zB, zI, zR, hrl, hlen, bools_len]
              repeat with_reducible refine cj ?_ ?_
              all_goals try first | omega
              refine hK22 _ _ _ ?_; clear hK22
              refine AW.ret ?_
              rw [← hQl3]
              rw [← hQl2]
              rw [← hQl1]
              rw [← hQr]
              simp only [go_sem, reduceIte, reduceCtorEq, zA, zM, zE, zL, zD, zS, zP, zB, zI, zR, hrl, hlen, bools_len]
              have hf : poB n t = false := by
                cases e : poB n t with
                | false => rfl
                | true => have := (hpo.1 e).trans i j k (by omega) (by omega) (by omega) hb.1.1 hb.1.2; rw [hb.2] at this; cases this
              exact Wk.of_eq (by rw [hf])
            · intro hb
              try simp only [hB, decide_eq_true_eq, decide_eq_false_iff_not] at hb
              refine AW.skip ?_
              refine hK20 _ _ _ ?_; clear hK20
              refine AW.regionK 0 (fun _ => none) [3, 4, 5, 6] [] ?_
              simp only [go_sem, reduceIte, reduceCtorEq, zA, zM, zE, zL, zD, zS, zP, zB, zI, zR, hrl, hlen, bools_len]
              repeat with_reducible refine cj ?_ ?_
              all_goals try first | omega
              rw [← hQl3]
              change Exists _
              refine ⟨_, ?hm, k + 1, rfl, ?henv, ?hstore, ?hst⟩
              case henv =>
                repeat' (first | rfl | refine env_cons ?_ ?_ | refine st_cons ?_ ?_ ?_ ?_ | refine int_eq ?_ | refine bool_eq ?_ | refine rsl_eq ?_ | refine osl_eq ?_ | refine sl_eq ?_ ?_ ?_ | refine ptr_eq ?_ ?_ ?_ | refine agg_eq ?_ | refine es_cons ?_ ?_ | refine row_cons ?_ ?_)
                all_goals (first | (simp; done) | omega | (simp; omega))
              case hstore =>
                repeat' (first | rfl | refine env_cons ?_ ?_ | refine st_cons ?_ ?_ ?_ ?_ | refine int_eq ?_ | refine bool_eq ?_ | refine rsl_eq ?_ | refine osl_eq ?_ | refine sl_eq ?_ ?_ ?_ | refine ptr_eq ?_ ?_ ?_ | refine agg_eq ?_ | refine es_cons ?_ ?_ | refine row_cons ?_ ?_)
                all_goals (first | (simp; done) | omega | (simp; omega))
              case hst =>
                refine ⟨by omega, fun c hc h1 h2 => ?_⟩
                by_cases e : c = k
                · subst e
                  revert hb; rw [h1, h2]; cases atT t i c <;> simp
                · exact hal3 c (by omega) h1 h2
              case hm => omega
          · intro hb
            try simp only [hB, decide_eq_true_eq, decide_eq_false_iff_not] at hb
            have hk2 : k = n := by omega
            refine AW.keep [3, 4, 5] [] ?_
            try simp only [go_sem, reduceIte, reduceCtorEq, zA, zM, zE, zL, zD, zS, zP, zB, zI, zR]
            refine AW.exit ?_
            rw [← hQl3]
            refine hK16 _ _ _ ?_; clear hK16
            refine AW.regionK 0 (fun _ => none) [3, 4, 5] [] ?_
            simp only [go_sem, reduceIte, reduceCtorEq, zA, zM, zE, zL, zD, zS, zP, zB, zI, zR, hrl, hlen, bools_len]
            repeat with_reducible refine cj ?_ ?_
            all_goals try first | omega
            rw [← hQl2]
            change Exists _
            refine ⟨_, ?hm, j + 1, rfl, ?henv, ?hstore, ?hst⟩
            case henv =>
              repeat' (first | rfl | refine env_cons ?_ ?_ | refine st_cons ?_ ?_ ?_ ?_ | refine int_eq ?_ | refine bool_eq ?_ | refine rsl_eq ?_ | refine osl_eq ?_ | refine sl_eq ?_ ?_ ?_ | refine ptr_eq ?_ ?_ ?_ | refine agg_eq ?_ | refine es_cons ?_ ?_ | refine row_cons ?_ ?_)
              all_goals (first | (simp; done) | omega | (simp; omega))
            case hstore =>
              repeat' (first | rfl | refine env_cons ?_ ?_ | refine st_cons ?_ ?_ ?_ ?_ | refine int_eq ?_ | refine bool_eq ?_ | refine rsl_eq ?_ | refine osl_eq ?_ | refine sl_eq ?_ ?_ ?_ | refine ptr_eq ?_ ?_ ?_ | refine agg_eq ?_ | refine es_cons ?_ ?_ | refine row_cons ?_ ?_)
              all_goals (first | (simp; done) | omega | (simp; omega))
            case hst =>
              refine ⟨by omega, fun b c hb2 hc h1 h2 => ?_⟩
              by_cases e : b = j
              · subst e; exact hal3 c (by omega) h1 h2
              · exact hal2 b c (by omega) hc h1 h2
            case hm => omega
        · intro hb
          try simp only [hB, decide_eq_true_eq, decide_eq_false_iff_not] at hb
          have hj2 : j = n := by omega
          refine AW.keep [3, 4] [] ?_
          try simp only [go_sem, reduceIte, reduceCtorEq, zA, zM, zE, zL, zD, zS, zP, zB, zI, zR]
          refine AW.exit ?_
          rw [← hQl2]
          refine hK9 _ _ _ ?_; clear hK9
          refine AW.regionK 0 (fun _ => none) [3, 4] [] ?_
          simp only [go_sem, reduceIte, reduceCtorEq, zA, zM, zE, zL, zD, zS, zP, zB, zI, zR, hrl, hlen, bools_len]
          repeat with_reducible refine cj ?_ ?_
          all_goals try first | omega
          rw [← hQl1]
          change Exists _
          refine ⟨_, ?hm, i + 1, rfl, ?henv, ?hstore, ?hst⟩
          case henv =>
            repeat' (first | rfl | refine env_cons ?_ ?_ | refine st_cons ?_ ?_ ?_ ?_ | refine int_eq ?_ | refine bool_eq ?_ | refine rsl_eq ?_ | refine osl_eq ?_ | refine sl_eq ?_ ?_ ?_ | refine ptr_eq ?_ ?_ ?_ | refine agg_eq ?_ | refine es_cons ?_ ?_ | refine row_cons ?_ ?_)
            all_goals (first | (simp; done) | omega | (simp; omega))
          case hstore =>
            repeat' (first | rfl | refine env_cons ?_ ?_ | refine st_cons ?_ ?_ ?_ ?_ | refine int_eq ?_ | refine bool_eq ?_ | refine rsl_eq ?_ | refine osl_eq ?_ | refine sl_eq ?_ ?_ ?_ | refine ptr_eq ?_ ?_ ?_ | refine agg_eq ?_ | refine es_cons ?_ ?_ | refine row_cons ?_ ?_)
            all_goals (first | (simp; done) | omega | (simp; omega))
          case hst =>
            refine ⟨by omega, fun a ha => ?_⟩
            by_cases e : a = i
            · subst e; exact ⟨hir, fun b c hb2 hc => hal2 b c (by omega) hc⟩
            · exact hal a (by omega)
          case hm => omega
    · intro hb
      try simp only [hB, decide_eq_true_eq, decide_eq_false_iff_not] at hb
      refine AW.keep [] [] ?_
      try simp only [go_sem, reduceIte, reduceCtorEq, zA, zM, zE, zL, zD, zS, zP, zB, zI, zR]
      refine AW.exit ?_
      rw [← hQl1]
      refine hK5 _ _ _ ?_; clear hK5
      refine AW.seq fun K23 hK23 => ?_
      refine AW.regionK 0 (fun _ => none) [2] [] ?_
      simp only [go_sem, reduceIte, reduceCtorEq, zA, zM, zE, zL, zD, zS, zP, zB, zI, zR, hrl, hlen, bools_len]
      repeat with_reducible refine cj ?_ ?_
      all_goals try first | omega
      refine hK23 _ _ _ ?_; clear hK23
      refine AW.ret ?_
      rw [← hQr]
      simp only [go_sem, reduceIte, reduceCtorEq, zA, zM, zE, zL, zD, zS, zP, zB, zI, zR, hrl, hlen, bools_len]
      have hi2 : i = n := by omega
      have hp : IsPo n t := ⟨fun a ha => (hal a (by omega)).1, fun a b c ha hb2 hc => (hal a (by omega)).2 b c hb2 hc⟩
      exact Wk.of_eq (by rw [hpo.2 hp])
end Go.Proofs.W

namespace Go.Proofs.W
open Go.AM Go
set_option maxRecDepth 100000
set_option maxHeartbeats 2000000
def longW (x : USet) : Bool := decide ((20 : Int) < x.W.length)
theorem great1_r (x : USet) (hx : x.W.length ≤ 9223372036854775807) : Reads Tryd.prog 35 false [.agg (rowV x)] (.bool (longW x)) := by
  unfold rowV
  refine Reads.body (rs := [.tmp 2]) Tryd.func35 rfl Tryd.ntmps35 rfl (by simp) ?_
  generalize hQr : retQ _ _ _ = Qr
  refine AW.seq fun K1 hK1 => ?_
  refine AW.regionK 0 (fun _ => none) [1] [1] ?_
  simp only [go_sem, reduceIte, reduceCtorEq, zA, zM, zE, zL, zD, zS, zP, zB, zI, zR]
  repeat with_reducible refine cj ?_ ?_
  all_goals try first | omega
  refine hK1 _ _ _ ?_; clear hK1
  refine AW.seq fun K2 hK2 => ?_
  refine AW.regionK 0 (fun _ => none) [2] [] ?_
  simp only [go_sem, reduceIte, reduceCtorEq, zA, zM, zE, zL, zD, zS, zP, zB, zI, zR]
  repeat with_reducible refine cj ?_ ?_
  all_goals try first | omega
  refine hK2 _ _ _ ?_; clear hK2
  refine AW.ret ?_
  rw [← hQr]
  simp only [go_sem, reduceIte, reduceCtorEq, zA, zM, zE, zL, zD, zS, zP, zB, zI, zR]
  exact Wk.of_eq (by unfold longW; simp)
theorem ixgreat_r (rs : List USet) (hl : longR rs) : Reads Tryd.prog 64 false [.rsl 2 (rs.map rowV), .fn 35 []] (.int .i64 (ixf longW rs)) := by
  have hbp := fun x hxm => great1_r x (hl.2 x hxm)
  have hl1 := hl.1
  refine Reads.body (rs := [.tmp 4]) Tryd.func64 rfl Tryd.ntmps64 rfl (by simp) ?_
  generalize hQr : retQ _ _ _ = Qr
  refine AW.seq fun K1 hK1 => ?_
  refine AW.regionK 0 (fun _ => none) [0, 1] [] ?_
  simp only [go_sem, reduceIte, reduceCtorEq, zA, zM, zE, zL, zD, zS, zP, zB, zI, zR]
  repeat with_reducible refine cj ?_ ?_
  all_goals try first | omega
  refine hK1 _ _ _ ?_; clear hK1
  refine AW.seq fun K2 hK2 => ?_
  refine AW.seq fun K3 hK3 => ?_
  refine AW.regionK 0 (fun _ => none) [0, 1, 7, 8] [] ?_
  simp only [go_sem, reduceIte, reduceCtorEq, zA, zM, zE, zL, zD, zS, zP, zB, zI, zR]
  repeat with_reducible refine cj ?_ ?_
  all_goals try first | omega
  refine hK3 _ _ _ ?_; clear hK3
  refine AW.block ?_
  refine AW.loopE (fun mm ee ss kk => ∃ (j : Nat), rs.length - j = mm ∧ ee = [(0, .rsl 2 (rs.map rowV)), (1, .fn 35 []), (7, .int .i64 rs.length), (8, .int .i64 (j : Nat))] ∧ ss = [] ∧ (j ≤ rs.length ∧ (rs.take j).any longW = false)) ?_ ?_
  · refine ⟨_, 0, rfl, ?henv, ?hstore, ?hst⟩
    case henv =>
      repeat' (first | rfl | refine env_cons ?_ ?_ | refine st_cons ?_ ?_ ?_ ?_ | refine int_eq ?_ | refine bool_eq ?_ | refine rsl_eq ?_ | refine osl_eq ?_ | refine sl_eq ?_ ?_ ?_ | refine ptr_eq ?_ ?_ ?_ | refine agg_eq ?_ | refine es_cons ?_ ?_ | refine row_cons ?_ ?_)
      all_goals (first | (simp; done) | omega | (simp; omega))
    case hstore =>
      repeat' (first | rfl | refine env_cons ?_ ?_ | refine st_cons ?_ ?_ ?_ ?_ | refine int_eq ?_ | refine bool_eq ?_ | refine rsl_eq ?_ | refine osl_eq ?_ | refine sl_eq ?_ ?_ ?_ | refine ptr_eq ?_ ?_ ?_ | refine agg_eq ?_ | refine es_cons ?_ ?_ | refine row_cons ?_ ?_)
      all_goals (first | (simp; done) | omega | (simp; omega))
    case hst =>
      first | trivial | omega | (simp; done) | (simp; omega)
  rintro mm ee ss kk ⟨j, rfl, rfl, rfl, hI⟩
  generalize hQl1 : thenQ _ _ = Ql1
  obtain ⟨hj, hall⟩ := hI
  refine AW.seq fun K4 hK4 => ?_
  refine AW.regionK 0 (fun _ => none) [0, 1, 7, 8, 9] [] ?_
  simp only [go_sem, reduceIte, reduceCtorEq, zA, zM, zE, zL, zD, zS, zP, zB, zI, zR]
  repeat with_reducible refine cj ?_ ?_
  all_goals try first | omega
  refine hK4 _ _ _ ?_; clear hK4
  refine AW.seq fun K5 hK5 => ?_
  refine AW.cond rfl (by simp only [go_sem, reduceIte, reduceCtorEq, zA, zM, zE, zL, zD, zS, zP, zB, zI, zR]) ?_ ?_
  · intro hb
    try simp only [hB, decide_eq_true_eq, decide_eq_false_iff_not] at hb
    obtain ⟨x, hx⟩ := getI (l := rs) (j := j) (by omega)
    have hgx := getV (f := rowV) hx
    have hats := any_take_succ (p := longW) hx
    have hbx := hbp x (List.mem_of_getElem? hx)
    refine AW.skip ?_
    refine hK5 _ _ _ ?_; clear hK5
    refine AW.seq fun K6 hK6 => ?_
    refine AW.block ?_
    refine AW.seq fun K7 hK7 => ?_
    refine AW.regionK 0 (fun _ => none) [0, 1, 5, 7, 8] [] ?_
    simp only [go_sem, reduceIte, reduceCtorEq, zA, zM, zE, zL, zD, zS, zP, zB, zI, zR]
    repeat with_reducible refine cj ?_ ?_
    all_goals try first | omega
    refine hK7 _ _ _ ?_; clear hK7
    refine AW.seq fun K8 hK8 => ?_
    refine AW.regionK 0 (fun ii => if ii = 5 then some (.reads false (.bool (longW x))) else none) [0, 1, 5, 7, 8, 16] [] ?_
    simp only [go_sem, reduceIte, reduceCtorEq, zA, zM, zE, zL, zD, zS, zP, zB, zI, zR, hgx, rowV]
    repeat with_reducible refine cj ?_ ?_
    all_goals try first | (exact hbx) | omega | exact ent (by kernel_rfl)
    refine hK8 _ _ _ ?_; clear hK8
    refine AW.cond rfl (by simp only [go_sem, reduceIte, reduceCtorEq, zA, zM, zE, zL, zD, zS, zP, zB, zI, zR]) ?_ ?_
    · intro hb
      try simp only [hB, decide_eq_true_eq, decide_eq_false_iff_not] at hb
      refine AW.seq fun K9 hK9 => ?_
      refine AW.regionK 0 (fun _ => none) [4] [] ?_
      simp only [go_sem, reduceIte, reduceCtorEq, zA, zM, zE, zL, zD, zS, zP, zB, zI, zR]
      repeat with_reducible refine cj ?_ ?_
      all_goals try first | omega
      refine hK9 _ _ _ ?_; clear hK9
      refine AW.ret ?_
      rw [← hQl1]
      rw [← hQr]
      simp only [go_sem, reduceIte, reduceCtorEq, zA, zM, zE, zL, zD, zS, zP, zB, zI, zR]
      exact Wk.of_eq (by rw [ixf_at hx hb hall])
    · intro hb
      try simp only [hB, decide_eq_true_eq, decide_eq_false_iff_not] at hb
      refine AW.skip ?_
      refine hK6 _ _ _ ?_; clear hK6
      refine AW.regionK 0 (fun _ => none) [0, 1, 7, 8] [] ?_
      simp only [go_sem, reduceIte, reduceCtorEq, zA, zM, zE, zL, zD, zS, zP, zB, zI, zR]
      repeat with_reducible refine cj ?_ ?_
      all_goals try first | omega
      rw [← hQl1]
      change Exists _
      refine ⟨_, ?hm, j + 1, rfl, ?henv, ?hstore, ?hst⟩
      case henv =>
        repeat' (first | rfl | refine env_cons ?_ ?_ | refine st_cons ?_ ?_ ?_ ?_ | refine int_eq ?_ | refine bool_eq ?_ | refine rsl_eq ?_ | refine osl_eq ?_ | refine sl_eq ?_ ?_ ?_ | refine ptr_eq ?_ ?_ ?_ | refine agg_eq ?_ | refine es_cons ?_ ?_ | refine row_cons ?_ ?_)
        all_goals (first | (simp; done) | omega | (simp; omega))
      case hstore =>
        repeat' (first | rfl | refine env_cons ?_ ?_ | refine st_cons ?_ ?_ ?_ ?_ | refine int_eq ?_ | refine bool_eq ?_ | refine rsl_eq ?_ | refine osl_eq ?_ | refine sl_eq ?_ ?_ ?_ | refine ptr_eq ?_ ?_ ?_ | refine agg_eq ?_ | refine es_cons ?_ ?_ | refine row_cons ?_ ?_)
        all_goals (first | (simp; done) | omega | (simp; omega))
      case hst =>
        exact ⟨by omega, by rw [hats, hall, hb]; rfl⟩
      case hm => omega
  · intro hb
    try simp only [hB, decide_eq_true_eq, decide_eq_false_iff_not] at hb
    refine AW.keep [] [] ?_
    try simp only [go_sem, reduceIte, reduceCtorEq, zA, zM, zE, zL, zD, zS, zP, zB, zI, zR]
    refine AW.exit ?_
    rw [← hQl1]
    refine hK2 _ _ _ ?_; clear hK2
    refine AW.seq fun K10 hK10 => ?_
    refine AW.regionK 0 (fun _ => none) [4] [] ?_
    simp only [go_sem, reduceIte, reduceCtorEq, zA, zM, zE, zL, zD, zS, zP, zB, zI, zR]
    repeat with_reducible refine cj ?_ ?_
    all_goals try first | omega
    refine hK10 _ _ _ ?_; clear hK10
    refine AW.ret ?_
    rw [← hQr]
    simp only [go_sem, reduceIte, reduceCtorEq, zA, zM, zE, zL, zD, zS, zP, zB, zI, zR]
    exact Wk.of_eq (by rw [List.take_of_length_le (by omega)] at hall; rw [ixf_none hall])
theorem ctgreat_r (rs : List USet) (hl : longR rs) : Reads Tryd.prog 34 false [.rsl 2 (rs.map rowV), .fn 35 []] (.bool (rs.any longW)) := by
  have h := ixgreat_r rs hl
  have hge := ixf_ge longW rs
  refine Reads.body (rs := [.tmp 4]) Tryd.func34 rfl Tryd.ntmps34 rfl (by simp) ?_
  generalize hQr : retQ _ _ _ = Qr
  refine AW.seq fun K1 hK1 => ?_
  refine AW.regionK 0 (fun _ => none) [0, 1] [] ?_
  simp only [go_sem, reduceIte, reduceCtorEq, zA, zM, zE, zL, zD, zS, zP, zB, zI, zR]
  repeat with_reducible refine cj ?_ ?_
  all_goals try first | omega
  refine hK1 _ _ _ ?_; clear hK1
  refine AW.seq fun K2 hK2 => ?_
  refine AW.regionK 0 (fun ii => if ii = 2 then some (.reads false (.int .i64 (ixf longW rs))) else none) [4] [] ?_
  simp only [go_sem, reduceIte, reduceCtorEq, zA, zM, zE, zL, zD, zS, zP, zB, zI, zR]
  repeat with_reducible refine cj ?_ ?_
  all_goals try first | (exact h) | omega | exact ent (by kernel_rfl)
  refine hK2 _ _ _ ?_; clear hK2
  refine AW.ret ?_
  rw [← hQr]
  simp only [go_sem, reduceIte, reduceCtorEq, zA, zM, zE, zL, zD, zS, zP, zB, zI, zR]
  exact Wk.of_eq (by rw [hge])
def greatB (rs : List USet) : Bool := decide ((70 : Int) < rs.length) && decide ((rs.length : Int) ≤ 512) || decide ((520 : Int) < rs.length) || rs.any longW
theorem great_r (rs : List USet) (hl : longR rs) : Reads Tryd.prog 9 false [relV rs] (.bool (greatB rs)) := by
  have h := Reads.flat (ctgreat_r rs hl) rfl
  have hl1 := hl.1
  unfold relV
  refine Reads.body (rs := [.tmp 2]) Tryd.func9 rfl Tryd.ntmps9 rfl (by simp) ?_
  generalize hQr : retQ _ _ _ = Qr
  refine AW.seq fun K1 hK1 => ?_
  refine AW.regionK 0 (fun _ => none) [1] [1] ?_
  simp only [go_sem, reduceIte, reduceCtorEq, zA, zM, zE, zL, zD, zS, zP, zB, zI, zR]
  repeat with_reducible refine cj ?_ ?_
  all_goals try first | omega
  refine hK1 _ _ _ ?_; clear hK1
  refine AW.seq fun K2 hK2 => ?_
  refine AW.regionK 0 (fun ii => if ii = 19 then some (.reads true (.bool (rs.any longW))) else none) [2] [] ?_
  simp only [go_sem, reduceIte, reduceCtorEq, zA, zM, zE, zL, zD, zS, zP, zB, zI, zR]
  repeat with_reducible refine cj ?_ ?_
  all_goals try first | ((intro hh; exact ⟨hh, h⟩)) | (intros; (repeat' apply And.intro) <;> first | assumption | ((intro hh; exact ⟨hh, h⟩))) | omega | exact ent (by kernel_rfl) | (intro hgd; exact absurd hgd (by decide)) | rfl | (simp only [go_sem, reduceIte, reduceCtorEq, zA, zM, zE, zL, zD, zS, zP, zB, zI, zR]; done) | (intro _hgd; simp_all [go_sem]; done)
  refine hK2 _ _ _ ?_; clear hK2
  refine AW.ret ?_
  rw [← hQr]
  simp only [go_sem, reduceIte, reduceCtorEq, zA, zM, zE, zL, zD, zS, zP, zB, zI, zR]
  exact Wk.of_eq (by unfold greatB; rfl)
def longC (c : List Int) : Bool := decide ((60 : Int) < c.length)
theorem long1_r (c : List Int) (hx : c.length ≤ 9223372036854775807) : Reads Tryd.prog 44 false [.rsl 1 (ints c)] (.bool (longC c)) := by
  refine Reads.body (rs := [.tmp 2]) Tryd.func44 rfl Tryd.ntmps44 rfl (by simp) ?_
  generalize hQr : retQ _ _ _ = Qr
  refine AW.seq fun K1 hK1 => ?_
  refine AW.regionK 0 (fun _ => none) [0] [] ?_
  simp only [go_sem, reduceIte, reduceCtorEq, zA, zM, zE, zL, zD, zS, zP, zB, zI, zR, ints_len]
  repeat with_reducible refine cj ?_ ?_
  all_goals try first | omega
  refine hK1 _ _ _ ?_; clear hK1
  refine AW.seq fun K2 hK2 => ?_
  refine AW.regionK 0 (fun _ => none) [2] [] ?_
  simp only [go_sem, reduceIte, reduceCtorEq, zA, zM, zE, zL, zD, zS, zP, zB, zI, zR, ints_len]
  repeat with_reducible refine cj ?_ ?_
  all_goals try first | omega
  refine hK2 _ _ _ ?_; clear hK2
  refine AW.ret ?_
  rw [← hQr]
  simp only [go_sem, reduceIte, reduceCtorEq, zA, zM, zE, zL, zD, zS, zP, zB, zI, zR, ints_len]
  exact Wk.of_eq (by unfold longC; simp)
theorem ixlong_r (cs : List (List Int)) (hl1 : cs.length ≤ 9223372036854775807) (hl2 : ∀ c ∈ cs, c.length ≤ 9223372036854775807) : Reads Tryd.prog 72 false [.rsl 1 (M.nbR cs), .fn 44 []] (.int .i64 (ixf longC cs)) := by
  have hbp := fun x hxm => long1_r x (hl2 x hxm)
  have hnl := M.nbR_len cs
  refine Reads.body (rs := [.tmp 4]) Tryd.func72 rfl Tryd.ntmps72 rfl (by simp) ?_
  generalize hQr : retQ _ _ _ = Qr
  refine AW.seq fun K1 hK1 => ?_
  refine AW.regionK 0 (fun _ => none) [0, 1] [] ?_
  simp only [go_sem, reduceIte, reduceCtorEq, zA, zM, zE, zL, zD, zS, zP, zB, zI, zR, hnl]
  repeat with_reducible refine cj ?_ ?_
  all_goals try first | omega
  refine hK1 _ _ _ ?_; clear hK1
  refine AW.seq fun K2 hK2 => ?_
  refine AW.seq fun K3 hK3 => ?_
  refine AW.regionK 0 (fun _ => none) [0, 1, 7, 8] [] ?_
  simp only [go_sem, reduceIte, reduceCtorEq, zA, zM, zE, zL, zD, zS, zP, zB, zI, zR, hnl]
  repeat with_reducible refine cj ?_ ?_
  all_goals try first | omega
  refine hK3 _ _ _ ?_; clear hK3
  refine AW.block ?_
  refine AW.loopE (fun mm ee ss kk => ∃ (j : Nat), cs.length - j = mm ∧ ee = [(0, .rsl 1 (M.nbR cs)), (1, .fn 44 []), (7, .int .i64 cs.length), (8, .int .i64 (j : Nat))] ∧ ss = [] ∧ (j ≤ cs.length ∧ (cs.take j).any longC = false)) ?_ ?_
  · refine ⟨_, 0, rfl, ?henv, ?hstore, ?hst⟩
    case henv =>
      repeat' (first | rfl | refine env_cons ?_ ?_ | refine st_cons ?_ ?_ ?_ ?_ | refine int_eq ?_ | refine bool_eq ?_ | refine rsl_eq ?_ | refine osl_eq ?_ | refine sl_eq ?_ ?_ ?_ | refine ptr_eq ?_ ?_ ?_ | refine agg_eq ?_ | refine es_cons ?_ ?_ | refine row_cons ?_ ?_)
      all_goals (first | (simp; done) | omega | (simp; omega))
    case hstore =>
      repeat' (first | rfl | refine env_cons ?_ ?_ | refine st_cons ?_ ?_ ?_ ?_ | refine int_eq ?_ | refine bool_eq ?_ | refine rsl_eq ?_ | refine osl_eq ?_ | refine sl_eq ?_ ?_ ?_ | refine ptr_eq ?_ ?_ ?_ | refine agg_eq ?_ | refine es_cons ?_ ?_ | refine row_cons ?_ ?_)
      all_goals (first | (simp; done) | omega | (simp; omega))
    case hst =>
      first | trivial | omega | (simp; done) | (simp; omega)
  rintro mm ee ss kk ⟨j, rfl, rfl, rfl, hI⟩
  generalize hQl1 : thenQ _ _ = Ql1
  obtain ⟨hj, hall⟩ := hI
  refine AW.seq fun K4 hK4 => ?_
  refine AW.regionK 0 (fun _ => none) [0, 1, 7, 8, 9] [] ?_
  simp only [go_sem, reduceIte, reduceCtorEq, zA, zM, zE, zL, zD, zS, zP, zB, zI, zR, hnl]
  repeat with_reducible refine cj ?_ ?_
  all_goals try first | omega
  refine hK4 _ _ _ ?_; clear hK4
  refine AW.seq fun K5 hK5 => ?_
  refine AW.cond rfl (by simp only [go_sem, reduceIte, reduceCtorEq, zA, zM, zE, zL, zD, zS, zP, zB, zI, zR]) ?_ ?_
  · intro hb
    try simp only [hB, decide_eq_true_eq, decide_eq_false_iff_not] at hb
    obtain ⟨x, hx⟩ := getI (l := cs) (j := j) (by omega)
    have hgx := M.nbR_get hx
    have hats := any_take_succ (p := longC) hx
    have hbx := hbp x (List.mem_of_getElem? hx)
    refine AW.skip ?_
    refine hK5 _ _ _ ?_; clear hK5
    refine AW.seq fun K6 hK6 => ?_
    refine AW.block ?_
    refine AW.seq fun K7 hK7 => ?_
    refine AW.regionK 0 (fun _ => none) [0, 1, 5, 7, 8] [] ?_
    simp only [go_sem, reduceIte, reduceCtorEq, zA, zM, zE, zL, zD, zS, zP, zB, zI, zR, hnl]
    repeat with_reducible refine cj ?_ ?_
    all_goals try first | omega
    refine hK7 _ _ _ ?_; clear hK7
    refine AW.seq fun K8 hK8 => ?_
    refine AW.regionK 0 (fun ii => if ii = 5 then some (.reads false (.bool (longC x))) else none) [0, 1, 5, 7, 8, 16] [] ?_
    simp only [go_sem, reduceIte, reduceCtorEq, zA, zM, zE, zL, zD, zS, zP, zB, zI, zR, hnl, hgx]
    repeat with_reducible refine cj ?_ ?_
    all_goals try first | (exact hbx) | omega | exact ent (by kernel_rfl)
    refine hK8 _ _ _ ?_; clear hK8
    refine AW.cond rfl (by simp only [go_sem, reduceIte, reduceCtorEq, zA, zM, zE, zL, zD, zS, zP, zB, zI, zR]) ?_ ?_
    · intro hb
      try simp only [hB, decide_eq_true_eq, decide_eq_false_iff_not] at hb
      refine AW.seq fun K9 hK9 => ?_
      refine AW.regionK 0 (fun _ => none) [4] [] ?_
      simp only [go_sem, reduceIte, reduceCtorEq, zA, zM, zE, zL, zD, zS, zP, zB, zI, zR, hnl]
      repeat with_reducible refine cj ?_ ?_
      all_goals try first | omega
      refine hK9 _ _ _ ?_; clear hK9
      refine AW.ret ?_
      rw [← hQl1]
      rw [← hQr]
      simp only [go_sem, reduceIte, reduceCtorEq, zA, zM, zE, zL, zD, zS, zP, zB, zI, zR, hnl]
      exact Wk.of_eq (by rw [ixf_at hx hb hall])
    · intro hb
      try simp only [hB, decide_eq_true_eq, decide_eq_false_iff_not] at hb
      refine AW.skip ?_
      refine hK6 _ _ _ ?_; clear hK6
      refine AW.regionK 0 (fun _ => none) [0, 1, 7, 8] [] ?_
      simp only [go_sem, reduceIte, reduceCtorEq, zA, zM, zE, zL, zD, zS, zP, zB, zI, zR, hnl]
      repeat with_reducible refine cj ?_ ?_
      all_goals try first | omega
      rw [← hQl1]
      change Exists _
      refine ⟨_, ?hm, j + 1, rfl, ?henv, ?hstore, ?hst⟩
      case henv =>
        repeat' (first | rfl | refine env_cons ?_ ?_ | refine st_cons ?_ ?_ ?_ ?_ | refine int_eq ?_ | refine bool_eq ?_ | refine rsl_eq ?_ | refine osl_eq ?_ | refine sl_eq ?_ ?_ ?_ | refine ptr_eq ?_ ?_ ?_ | refine agg_eq ?_ | refine es_cons ?_ ?_ | refine row_cons ?_ ?_)
        all_goals (first | (simp; done) | omega | (simp; omega))
      case hstore =>
        repeat' (first | rfl | refine env_cons ?_ ?_ | refine st_cons ?_ ?_ ?_ ?_ | refine int_eq ?_ | refine bool_eq ?_ | refine rsl_eq ?_ | refine osl_eq ?_ | refine sl_eq ?_ ?_ ?_ | refine ptr_eq ?_ ?_ ?_ | refine agg_eq ?_ | refine es_cons ?_ ?_ | refine row_cons ?_ ?_)
        all_goals (first | (simp; done) | omega | (simp; omega))
      case hst =>
        exact ⟨by omega, by rw [hats, hall, hb]; rfl⟩
      case hm => omega
  · intro hb
    try simp only [hB, decide_eq_true_eq, decide_eq_false_iff_not] at hb
    refine AW.keep [] [] ?_
    try simp only [go_sem, reduceIte, reduceCtorEq, zA, zM, zE, zL, zD, zS, zP, zB, zI, zR]
    refine AW.exit ?_
    rw [← hQl1]
    refine hK2 _ _ _ ?_; clear hK2
    refine AW.seq fun K10 hK10 => ?_
    refine AW.regionK 0 (fun _ => none) [4] [] ?_
    simp only [go_sem, reduceIte, reduceCtorEq, zA, zM, zE, zL, zD, zS, zP, zB, zI, zR, hnl]
    repeat with_reducible refine cj ?_ ?_
    all_goals try first | omega
    refine hK10 _ _ _ ?_; clear hK10
    refine AW.ret ?_
    rw [← hQr]
    simp only [go_sem, reduceIte, reduceCtorEq, zA, zM, zE, zL, zD, zS, zP, zB, zI, zR, hnl]
    exact Wk.of_eq (by rw [List.take_of_length_le (by omega)] at hall; rw [ixf_none hall])
theorem ctlong_r (cs : List (List Int)) (hl1 : cs.length ≤ 9223372036854775807) (hl2 : ∀ c ∈ cs, c.length ≤ 9223372036854775807) : Reads Tryd.prog 43 false [.rsl 1 (M.nbR cs), .fn 44 []] (.bool (cs.any longC)) := by
  have h := ixlong_r cs hl1 hl2
  have hge := ixf_ge longC cs
  refine Reads.body (rs := [.tmp 4]) Tryd.func43 rfl Tryd.ntmps43 rfl (by simp) ?_
  generalize hQr : retQ _ _ _ = Qr
  refine AW.seq fun K1 hK1 => ?_
  refine AW.regionK 0 (fun _ => none) [0, 1] [] ?_
  simp only [go_sem, reduceIte, reduceCtorEq, zA, zM, zE, zL, zD, zS, zP, zB, zI, zR]
  repeat with_reducible refine cj ?_ ?_
  all_goals try first | omega
  refine hK1 _ _ _ ?_; clear hK1
  refine AW.seq fun K2 hK2 => ?_
  refine AW.regionK 0 (fun ii => if ii = 2 then some (.reads false (.int .i64 (ixf longC cs))) else none) [4] [] ?_
  simp only [go_sem, reduceIte, reduceCtorEq, zA, zM, zE, zL, zD, zS, zP, zB, zI, zR]
  repeat with_reducible refine cj ?_ ?_
  all_goals try first | (exact h) | omega | exact ent (by kernel_rfl)
  refine hK2 _ _ _ ?_; clear hK2
  refine AW.ret ?_
  rw [← hQr]
  simp only [go_sem, reduceIte, reduceCtorEq, zA, zM, zE, zL, zD, zS, zP, zB, zI, zR]
  exact Wk.of_eq (by rw [hge])
def longB (cs : List (List Int)) : Bool := decide ((60 : Int) < cs.length) || cs.any longC
theorem long_r (cs : List (List Int)) (hl1 : cs.length ≤ 9223372036854775807) (hl2 : ∀ c ∈ cs, c.length ≤ 9223372036854775807) : Reads Tryd.prog 15 false [.rsl 1 (M.nbR cs)] (.bool (longB cs)) := by
  have h := Reads.flat (ctlong_r cs hl1 hl2) rfl
  have hnl := M.nbR_len cs
  refine Reads.body (rs := [.tmp 2]) Tryd.func15 rfl Tryd.ntmps15 rfl (by simp) ?_
  generalize hQr : retQ _ _ _ = Qr
  refine AW.seq fun K1 hK1 => ?_
  refine AW.regionK 0 (fun _ => none) [0] [] ?_
  simp only [go_sem, reduceIte, reduceCtorEq, zA, zM, zE, zL, zD, zS, zP, zB, zI, zR, hnl]
  repeat with_reducible refine cj ?_ ?_
  all_goals try first | omega
  refine hK1 _ _ _ ?_; clear hK1
  refine AW.seq fun K2 hK2 => ?_
  refine AW.regionK 0 (fun ii => if ii = 5 then some (.reads true (.bool (cs.any longC))) else none) [2] [] ?_
  simp only [go_sem, reduceIte, reduceCtorEq, zA, zM, zE, zL, zD, zS, zP, zB, zI, zR, hnl]
  repeat with_reducible refine cj ?_ ?_
  all_goals try first | ((intro hh; exact ⟨hh, h⟩)) | (intros; (repeat' apply And.intro) <;> first | assumption | ((intro hh; exact ⟨hh, h⟩))) | omega | exact ent (by kernel_rfl) | (intro hgd; exact absurd hgd (by decide)) | rfl | (simp only [go_sem, reduceIte, reduceCtorEq, zA, zM, zE, zL, zD, zS, zP, zB, zI, zR, hnl]; done) | (intro _hgd; simp_all [go_sem]; done)
  refine hK2 _ _ _ ?_; clear hK2
  refine AW.ret ?_
  rw [← hQr]
  simp only [go_sem, reduceIte, reduceCtorEq, zA, zM, zE, zL, zD, zS, zP, zB, zI, zR, hnl]
  exact Wk.of_eq (by unfold longB; rfl)
def dPs : List (Int × Int) := [(0, 1), (0, 2), (1, 3), (2, 3), (0, 3)]
def dT : List (List Bool) := putL (zeroT 4) dPs
theorem dT_eq : dT = [[false, true, true, true], [false, false, false, true], [false, false, false, true], [false, false, false, false]] := by decide +kernel
theorem dT_sq : Sq 4 dT := by rw [dT_eq]; exact ⟨rfl, by decide⟩
theorem diamond_r : Reads Tryd.prog 33 false [] (relB dT) := by
  have h := make_g 4 dPs (by decide) (by decide) (fun p hp => by simp only [dPs, List.mem_cons, List.mem_nil_iff, or_false] at hp; rcases hp with rfl | rfl | rfl | rfl | rfl <;> simp [inP])
  rw [show putL (zeroT 4) dPs = dT from rfl] at h
  simp only [dPs, pairV, List.map_cons, List.map_nil] at h
  unfold relB at *
  generalize tabR dT = D at *
  refine Reads.body (rs := [.cell 0 24]) Tryd.func33 rfl Tryd.ntmps33 rfl (by simp) ?_
  generalize hQr : retQ _ _ _ = Qr
  refine AW.seq fun K1 hK1 => ?_
  refine AW.regionK 0 (fun _ => none) [0] [0] ?_
  simp only [go_sem, reduceIte, reduceCtorEq, zA, zM, zE, zL, zD, zS, zP, zB, zI, zR]
  repeat with_reducible refine cj ?_ ?_
  all_goals try first | omega
  refine hK1 _ _ _ ?_; clear hK1
  refine AW.seq fun K2 hK2 => ?_
  refine AW.regionG 0 (fun ii => if ii = 6 then some (.reads false (.tup [.agg [.rsl 2 D], .int .i64 ((0 : Nat) : Int)])) else none) (fun ii => if ii = 6 then some ([9], [9]) else none) [0, 1] [0, 1] ?_
  simp only [go_sem, reduceIte, reduceCtorEq, zA, zM, zE, zL, zD, zS, zP, zB, zI, zR]
  repeat with_reducible refine cj ?_ ?_
  all_goals try first | (exact h) | omega | exact ent (by kernel_rfl)
  refine hK2 _ _ _ ?_; clear hK2
  refine AW.seq fun K3 hK3 => ?_
  refine AW.regionK 0 (fun _ => none) [0] [0] ?_
  simp only [go_sem, reduceIte, reduceCtorEq, zA, zM, zE, zL, zD, zS, zP, zB, zI, zR]
  repeat with_reducible refine cj ?_ ?_
  all_goals try first | omega
  refine hK3 _ _ _ ?_; clear hK3
  refine AW.ret ?_
  rw [← hQr]
  simp only [go_sem, reduceIte, reduceCtorEq, zA, zM, zE, zL, zD, zS, zP, zB, zI, zR]
  exact Wk.refl _
end Go.Proofs.W

namespace Go.Proofs.W
open Go.AM Go
set_option maxRecDepth 100000
set_option maxHeartbeats 2000000
theorem mxU_bnd {l : List Int} {B : Int} (hB : 0 ≤ B) (h : ∀ x ∈ l, 0 ≤ x ∧ x ≤ B) : ∀ j, 0 ≤ mxU l j ∧ mxU l j ≤ B
  | 0 => by
    unfold mxU
    by_cases h0 : 0 < l.length
    · exact h _ (mem_getD h0 0)
    · rw [getD_out (by omega)]; omega
  | j + 1 => by
    have ih := mxU_bnd hB h j
    unfold mxU
    have : 0 ≤ l.getD (j + 1) 0 ∧ l.getD (j + 1) 0 ≤ B := by
      by_cases h0 : j + 1 < l.length
      · exact h _ (mem_getD h0 0)
      · rw [getD_out (by omega)]; omega
    omega
theorem dT_po : poB 4 dT = true := by rw [dT_eq]; decide +kernel
theorem dT_pairs : (pairsT dT 4).length ≤ 2000 := by rw [dT_eq]; decide +kernel
theorem dT_lev : levO 4 dT = [0, 1, 1, 2] := by rw [dT_eq]; decide +kernel
theorem dT_w : (chainsT 4 dT).length = 2 := by rw [dT_eq]; decide +kernel
theorem dT_h : heightT 4 dT = 3 := by unfold heightT; rw [dT_lev]; decide +kernel
theorem dT_c1 : chainB 4 dT [0, 1, 3] = true := by rw [dT_eq]; decide +kernel
theorem dT_c2 : chainB 4 dT [1, 2] = false := by rw [dT_eq]; decide +kernel
theorem dT_a : antiB dT [false, true, true, false] = true := by rw [dT_eq]; decide +kernel
theorem dT_s : setW [false, true, true, false] 4 = [6] := by decide +kernel
theorem awake_r : Reads Tryd.prog 8 false [] (.bool true) := by
  have hd := diamond_r
  have hw := width_g 4 dT dT_sq (by decide) dT_po dT_pairs
  have hh := height_g 4 dT dT_sq (by decide) dT_po dT_pairs (by rw [dT_lev]; rfl) (fun j => by have := mxU_bnd (l := levO 4 dT) (B := 4) (by decide) (by rw [dT_lev]; decide) j; omega)
  have h1 := Reads.flat (ischain_g 4 dT dT_sq (by decide) dT_po [0, 1, 3] (by decide)) rfl
  have h2 := Reads.flat (ischain_g 4 dT dT_sq (by decide) dT_po [1, 2] (by decide)) rfl
  have h3 := Reads.flat (isanti_g 4 dT dT_sq (by decide) dT_po [false, true, true, false] rfl) rfl
  rw [dT_w] at hw
  rw [dT_h] at hh
  rw [dT_c1] at h1
  rw [dT_c2] at h2
  rw [dT_a, dT_s] at h3
  simp only [ints, words, List.map_cons, List.map_nil] at h1 h2 h3
  unfold relB at *
  generalize tabR dT = D at *
  refine Reads.body (rs := [.tmp 0]) Tryd.func8 rfl Tryd.ntmps8 rfl (by simp) ?_
  generalize hQr : retQ _ _ _ = Qr
  refine AW.seq fun K1 hK1 => ?_
  refine AW.regionK 0 (fun _ => none) [] [] ?_
  simp only [go_sem, reduceIte, reduceCtorEq, zA, zM, zE, zL, zD, zS, zP, zB, zI, zR, decide_true, eq_self]
  repeat with_reducible refine cj ?_ ?_
  all_goals try first | omega
  refine hK1 _ _ _ ?_; clear hK1
  refine AW.seq fun K2 hK2 => ?_
  refine AW.regionK 0 (fun ii => if ii = 0 then some (.reads false (.agg [.rsl 2 D])) else if ii = 1 then some (.reads false (.tup [.int .i64 ((2 : Nat) : Int), .int .i64 0])) else none) [1, 2] [] ?_
  simp only [go_sem, reduceIte, reduceCtorEq, zA, zM, zE, zL, zD, zS, zP, zB, zI, zR, decide_true, eq_self]
  repeat with_reducible refine cj ?_ ?_
  all_goals try first | (first | exact hd | exact hw) | omega | exact ent (by kernel_rfl)
  refine hK2 _ _ _ ?_; clear hK2
  refine AW.seq fun K3 hK3 => ?_
  refine AW.regionK 0 (fun ii => if ii = 0 then some (.reads false (.agg [.rsl 2 D])) else if ii = 1 then some (.reads false (.tup [.int .i64 3, .int .i64 0])) else none) [1, 2, 3, 4] [] ?_
  simp only [go_sem, reduceIte, reduceCtorEq, zA, zM, zE, zL, zD, zS, zP, zB, zI, zR, decide_true, eq_self]
  repeat with_reducible refine cj ?_ ?_
  all_goals try first | (first | exact hd | exact hh) | omega | exact ent (by kernel_rfl)
  refine hK3 _ _ _ ?_; clear hK3
  refine AW.seq fun K4 hK4 => ?_
  refine AW.regionK 0 (fun ii => if ii = 15 then some (.reads false (.agg [.rsl 2 D])) else if ii = 17 then some (.reads true (.bool true)) else if ii = 20 then some (.reads false (.agg [.rsl 2 D])) else if ii = 22 then some (.reads true (.bool false)) else if ii = 26 then some (.reads false (.agg [.rsl 2 D])) else if ii = 29 then some (.reads true (.bool true)) else none) [0] [] ?_
  simp only [go_sem, reduceIte, reduceCtorEq, zA, zM, zE, zL, zD, zS, zP, zB, zI, zR, decide_true, eq_self]
  repeat with_reducible refine cj ?_ ?_
  all_goals try first | (first | exact hd | exact h1 | exact h2 | exact h3) | (intros; (repeat' apply And.intro) <;> first | assumption | (first | exact hd | exact h1 | exact h2 | exact h3)) | omega | exact ent (by kernel_rfl) | (intro hgd; exact absurd hgd (by decide)) | rfl | (simp only [go_sem, reduceIte, reduceCtorEq, zA, zM, zE, zL, zD, zS, zP, zB, zI, zR, decide_true, eq_self]; done) | (intro _hgd; simp_all [go_sem]; done)
  refine hK4 _ _ _ ?_; clear hK4
  refine AW.ret ?_
  rw [← hQr]
  simp only [go_sem, reduceIte, reduceCtorEq, zA, zM, zE, zL, zD, zS, zP, zB, zI, zR, decide_true, eq_self]
  exact Wk.refl _
end Go.Proofs.W

namespace Go.Proofs.W
open Go.AM Go
set_option maxRecDepth 100000
set_option maxHeartbeats 2000000
theorem longB_bnd {cs : List (List Int)} (h : longB cs = false) : cs.length ≤ 60 ∧ ∀ c ∈ cs, c.length ≤ 60 := by
  unfold longB at h
  rw [Bool.or_eq_false_iff] at h
  refine ⟨by have := of_decide_eq_false h.1; omega, fun c hc => ?_⟩
  have h2 := h.2
  rw [List.any_eq_false] at h2
  have := h2 c hc
  unfold longC at this
  simp only [decide_eq_true_eq] at this
  omega
theorem checks_bad (rs : List USet) (hlr : longR rs) (l : List Int) (x : USet) (cs : List (List Int)) (hl : l.length ≤ 9223372036854775807) (hx : x.W.length ≤ 9223372036854775807) (hc1 : cs.length ≤ 9223372036854775807) (hc2 : ∀ c ∈ cs, c.length ≤ 9223372036854775807)
    (hv : Reads Tryd.prog 46 false [relV rs] (.bool false)) (hrv : Reads Tryd.prog 16 false [relV rs] (.bool false)) :
    Reads Tryd.prog 4 false [relV rs, .rsl 1 (ints l), .agg [.int .i64 x.N, .rsl 1 (words x.W)], .rsl 1 (M.nbR cs)] (.bool true) := by
  have haw := awake_r
  have hgr := great_r rs hlr
  have hlo := long_r cs hc1 hc2
  have hrl : (rs.map rowV).length ≤ 9223372036854775807 := by rw [List.length_map]; exact hlr.1
  have hic := ischain_e (rs.map rowV) hrl l hl hv
  have hia := isanti_e (rs.map rowV) hrl x.N x.W hx hv
  have hck := check_e (rs.map rowV) hrl x.N x.W hx cs hia
  have hxl := words_len x.W
  unfold relV at *
  refine Reads.body (rs := [.tmp 8]) Tryd.func4 rfl Tryd.ntmps4 rfl (by simp) ?_
  generalize hQr : retQ _ _ _ = Qr
  refine AW.seq fun K1 hK1 => ?_
  refine AW.regionK 0 (fun _ => none) [1, 3, 4, 6] [4, 6] ?_
  simp only [go_sem, reduceIte, reduceCtorEq, zA, zM, zE, zL, zD, zS, zP, zB, zI, zR, ints_len, hxl]
  repeat with_reducible refine cj ?_ ?_
  all_goals try first | omega
  refine hK1 _ _ _ ?_; clear hK1
  refine AW.seq fun K2 hK2 => ?_
  refine AW.seq fun K3 hK3 => ?_
  refine AW.regionK 0 (fun ii => if ii = 0 then some (.reads false (.bool true)) else none) [1, 3, 4, 6, 12] [4, 6] ?_
  simp only [go_sem, reduceIte, reduceCtorEq, zA, zM, zE, zL, zD, zS, zP, zB, zI, zR, ints_len, hxl]
  repeat with_reducible refine cj ?_ ?_
  all_goals try first | (exact haw) | omega | exact ent (by kernel_rfl)
  refine hK3 _ _ _ ?_; clear hK3
  refine AW.cond rfl (by simp only [go_sem, reduceIte, reduceCtorEq, zA, zM, zE, zL, zD, zS, zP, zB, zI, zR]) ?_ ?_
  · intro hb
    try simp only [hB, decide_eq_true_eq, decide_eq_false_iff_not] at hb
    exfalso; simp at hb
  · intro hb
    try simp only [hB, decide_eq_true_eq, decide_eq_false_iff_not] at hb
    refine AW.skip ?_
    refine hK2 _ _ _ ?_; clear hK2
    refine AW.seq fun K4 hK4 => ?_
    refine AW.seq fun K5 hK5 => ?_
    refine AW.regionK 0 (fun ii => if ii = 1 then some (.reads false (.bool (greatB rs))) else if ii = 15 then some (.reads false (.bool (longB cs))) else none) [1, 3, 4, 6, 29] [4, 6] ?_
    simp only [go_sem, reduceIte, reduceCtorEq, zA, zM, zE, zL, zD, zS, zP, zB, zI, zR, ints_len, hxl]
    repeat with_reducible refine cj ?_ ?_
    all_goals try first | (first | exact hgr | (intro hh; exact ⟨hh, hlo⟩)) | (intros; (repeat' apply And.intro) <;> first | assumption | (first | exact hgr | (intro hh; exact ⟨hh, hlo⟩))) | omega | exact ent (by kernel_rfl) | (intro hgd; exact absurd hgd (by decide)) | rfl | (simp only [go_sem, reduceIte, reduceCtorEq, zA, zM, zE, zL, zD, zS, zP, zB, zI, zR, ints_len, hxl]; done) | (intro _hgd; simp_all [go_sem]; done)
    refine hK5 _ _ _ ?_; clear hK5
    refine AW.cond rfl (by simp only [go_sem, reduceIte, reduceCtorEq, zA, zM, zE, zL, zD, zS, zP, zB, zI, zR]) ?_ ?_
    · intro hb
      try simp only [hB, decide_eq_true_eq, decide_eq_false_iff_not] at hb
      refine AW.seq fun K6 hK6 => ?_
      refine AW.regionK 0 (fun _ => none) [8] [] ?_
      simp only [go_sem, reduceIte, reduceCtorEq, zA, zM, zE, zL, zD, zS, zP, zB, zI, zR, ints_len, hxl]
      repeat with_reducible refine cj ?_ ?_
      all_goals try first | omega
      refine hK6 _ _ _ ?_; clear hK6
      refine AW.ret ?_
      rw [← hQr]
      simp only [go_sem, reduceIte, reduceCtorEq, zA, zM, zE, zL, zD, zS, zP, zB, zI, zR, ints_len, hxl]
      exact Wk.refl _
    · intro hb
      try simp only [hB, decide_eq_true_eq, decide_eq_false_iff_not] at hb
      refine AW.skip ?_
      refine hK4 _ _ _ ?_; clear hK4
      refine AW.seq fun K7 hK7 => ?_
      refine AW.seq fun K8 hK8 => ?_
      refine AW.regionK 0 (fun ii => if ii = 1 then some (.reads false (.bool false)) else none) [1, 3, 4, 6, 32] [4, 6] ?_
      simp only [go_sem, reduceIte, reduceCtorEq, zA, zM, zE, zL, zD, zS, zP, zB, zI, zR, ints_len, hxl]
      repeat with_reducible refine cj ?_ ?_
      all_goals try first | (exact hrv) | omega | exact ent (by kernel_rfl)
      refine hK8 _ _ _ ?_; clear hK8
      refine AW.cond rfl (by simp only [go_sem, reduceIte, reduceCtorEq, zA, zM, zE, zL, zD, zS, zP, zB, zI, zR]) ?_ ?_
      · intro hb
        try simp only [hB, decide_eq_true_eq, decide_eq_false_iff_not] at hb
        refine AW.seq fun K9 hK9 => ?_
        refine AW.regionK 0 (fun ii => if ii = 2 then some (.reads false (.bool false)) else if ii = 7 then some (.reads false (.bool false)) else if ii = 14 then some (.reads false (.bool false)) else none) [8] [] ?_
        simp only [go_sem, reduceIte, reduceCtorEq, zA, zM, zE, zL, zD, zS, zP, zB, zI, zR, ints_len, hxl]
        repeat with_reducible refine cj ?_ ?_
        all_goals try first | (first | exact hic | exact hia | exact hck) | (intros; (repeat' apply And.intro) <;> first | assumption | (first | exact hic | exact hia | exact hck)) | omega | exact ent (by kernel_rfl) | (intro hgd; exact absurd hgd (by decide)) | rfl | (simp only [go_sem, reduceIte, reduceCtorEq, zA, zM, zE, zL, zD, zS, zP, zB, zI, zR, ints_len, hxl]; done) | (intro _hgd; simp_all [go_sem]; done)
        refine hK9 _ _ _ ?_; clear hK9
        refine AW.ret ?_
        rw [← hQr]
        simp only [go_sem, reduceIte, reduceCtorEq, zA, zM, zE, zL, zD, zS, zP, zB, zI, zR, ints_len, hxl]
        exact Wk.refl _
      · intro hb
        try simp only [hB, decide_eq_true_eq, decide_eq_false_iff_not] at hb
        exfalso; simp at hb
theorem checks_no {gb : Bool} (n : Nat) (t : List (List Bool)) (hs : Sq n t) (hn : n ≤ 512) (hp : poB n t = true) (hgr : Reads Tryd.prog 9 false [relB t] (.bool gb)) (l : List Int) (x : USet) (cs : List (List Int)) (hl : l.length ≤ 9223372036854775807) (hx : x.W.length ≤ 9223372036854775807) (hc1 : cs.length ≤ 9223372036854775807) (hc2 : ∀ c ∈ cs, c.length ≤ 9223372036854775807)
    (hset : (decide (x.N = n) && validS n x.W) = false) :
    Reads Tryd.prog 4 false [relB t, .rsl 1 (ints l), .agg [.int .i64 x.N, .rsl 1 (words x.W)], .rsl 1 (M.nbR cs)] (.bool true) := by
  have haw := awake_r
  have hlo := long_r cs hc1 hc2
  have hrv := rval_g n t hs hn
  rw [hp] at hrv
  have hta := (R.table_r n t hs hn).old
  have hic := ischain_g n t hs hn hp l hl
  have hrc := rchain_r n t hs hn l hl
  have hset2 : (decide (x.N = n) && validS x.N x.W) = false := by
    by_cases e : x.N = (n : Int)
    · rw [e] at hset ⊢; exact hset
    · simp [e]
  have hia := isanti_f n t hs hn hp x.N x.W hx hset2
  have hra := ranti_f n t hs hn x.N x.W hx hset
  have hck := check_e (tabR t) (by rw [tabR_len, hs.len]; omega) x.N x.W hx cs hia
  have hxl := words_len x.W
  unfold relB at *
  refine Reads.body (rs := [.tmp 8]) Tryd.func4 rfl Tryd.ntmps4 rfl (by simp) ?_
  generalize hQr : retQ _ _ _ = Qr
  refine AW.seq fun K1 hK1 => ?_
  refine AW.regionK 0 (fun _ => none) [1, 3, 4, 6] [4, 6] ?_
  simp only [go_sem, reduceIte, reduceCtorEq, zA, zM, zE, zL, zD, zS, zP, zB, zI, zR, ints_len, hxl]
  repeat with_reducible refine cj ?_ ?_
  all_goals try first | omega
  refine hK1 _ _ _ ?_; clear hK1
  refine AW.seq fun K2 hK2 => ?_
  refine AW.seq fun K3 hK3 => ?_
  refine AW.regionK 0 (fun ii => if ii = 0 then some (.reads false (.bool true)) else none) [1, 3, 4, 6, 12] [4, 6] ?_
  simp only [go_sem, reduceIte, reduceCtorEq, zA, zM, zE, zL, zD, zS, zP, zB, zI, zR, ints_len, hxl]
  repeat with_reducible refine cj ?_ ?_
  all_goals try first | (exact haw) | omega | exact ent (by kernel_rfl)
  refine hK3 _ _ _ ?_; clear hK3
  refine AW.cond rfl (by simp only [go_sem, reduceIte, reduceCtorEq, zA, zM, zE, zL, zD, zS, zP, zB, zI, zR]) ?_ ?_
  · intro hb
    try simp only [hB, decide_eq_true_eq, decide_eq_false_iff_not] at hb
    exfalso; simp at hb
  · intro hb
    try simp only [hB, decide_eq_true_eq, decide_eq_false_iff_not] at hb
    refine AW.skip ?_
    refine hK2 _ _ _ ?_; clear hK2
    refine AW.seq fun K4 hK4 => ?_
    refine AW.seq fun K5 hK5 => ?_
    refine AW.regionK 0 (fun ii => if ii = 1 then some (.reads false (.bool gb)) else if ii = 15 then some (.reads false (.bool (longB cs))) else none) [1, 3, 4, 6, 29] [4, 6] ?_
    simp only [go_sem, reduceIte, reduceCtorEq, zA, zM, zE, zL, zD, zS, zP, zB, zI, zR, ints_len, hxl]
    repeat with_reducible refine cj ?_ ?_
    all_goals try first | (first | exact hgr | (intro hh; exact ⟨hh, hlo⟩)) | (intros; (repeat' apply And.intro) <;> first | assumption | (first | exact hgr | (intro hh; exact ⟨hh, hlo⟩))) | omega | exact ent (by kernel_rfl) | (intro hgd; exact absurd hgd (by decide)) | rfl | (simp only [go_sem, reduceIte, reduceCtorEq, zA, zM, zE, zL, zD, zS, zP, zB, zI, zR, ints_len, hxl]; done) | (intro _hgd; simp_all [go_sem]; done)
    refine hK5 _ _ _ ?_; clear hK5
    refine AW.cond rfl (by simp only [go_sem, reduceIte, reduceCtorEq, zA, zM, zE, zL, zD, zS, zP, zB, zI, zR]) ?_ ?_
    · intro hb
      try simp only [hB, decide_eq_true_eq, decide_eq_false_iff_not] at hb
      refine AW.seq fun K6 hK6 => ?_
      refine AW.regionK 0 (fun _ => none) [8] [] ?_
      simp only [go_sem, reduceIte, reduceCtorEq, zA, zM, zE, zL, zD, zS, zP, zB, zI, zR, ints_len, hxl]
      repeat with_reducible refine cj ?_ ?_
      all_goals try first | omega
      refine hK6 _ _ _ ?_; clear hK6
      refine AW.ret ?_
      rw [← hQr]
      simp only [go_sem, reduceIte, reduceCtorEq, zA, zM, zE, zL, zD, zS, zP, zB, zI, zR, ints_len, hxl]
      exact Wk.refl _
    · intro hb
      try simp only [hB, decide_eq_true_eq, decide_eq_false_iff_not] at hb
      refine AW.skip ?_
      refine hK4 _ _ _ ?_; clear hK4
      refine AW.seq fun K7 hK7 => ?_
      refine AW.seq fun K8 hK8 => ?_
      refine AW.regionK 0 (fun ii => if ii = 1 then some (.reads false (.bool true)) else none) [1, 3, 4, 6, 32] [4, 6] ?_
      simp only [go_sem, reduceIte, reduceCtorEq, zA, zM, zE, zL, zD, zS, zP, zB, zI, zR, ints_len, hxl]
      repeat with_reducible refine cj ?_ ?_
      all_goals try first | (exact hrv) | omega | exact ent (by kernel_rfl)
      refine hK8 _ _ _ ?_; clear hK8
      refine AW.cond rfl (by simp only [go_sem, reduceIte, reduceCtorEq, zA, zM, zE, zL, zD, zS, zP, zB, zI, zR]) ?_ ?_
      · intro hb
        try simp only [hB, decide_eq_true_eq, decide_eq_false_iff_not] at hb
        exfalso; simp at hb
      · intro hb
        try simp only [hB, decide_eq_true_eq, decide_eq_false_iff_not] at hb
        refine AW.skip ?_
        refine hK7 _ _ _ ?_; clear hK7
        refine AW.seq fun K9 hK9 => ?_
        refine AW.regionK 0 (fun ii => if ii = 1 then some (.reads false (.rsl 1 (rowsR t))) else none) [1, 3, 4, 6, 9] [4, 6] ?_
        simp only [go_sem, reduceIte, reduceCtorEq, zA, zM, zE, zL, zD, zS, zP, zB, zI, zR, ints_len, hxl]
        repeat with_reducible refine cj ?_ ?_
        all_goals try first | (exact hta) | omega | exact ent (by kernel_rfl)
        refine hK9 _ _ _ ?_; clear hK9
        refine AW.seq fun K10 hK10 => ?_
        refine AW.regionK 0 (fun ii => if ii = 2 then some (.reads false (.bool false)) else none) [1, 3, 4, 6, 9, 10] [4, 6] ?_
        simp only [go_sem, reduceIte, reduceCtorEq, zA, zM, zE, zL, zD, zS, zP, zB, zI, zR, ints_len, hxl]
        repeat with_reducible refine cj ?_ ?_
        all_goals try first | (exact hra) | omega | exact ent (by kernel_rfl)
        refine hK10 _ _ _ ?_; clear hK10
        refine AW.seq fun K11 hK11 => ?_
        refine AW.regionK 0 (fun ii => if ii = 2 then some (.reads false (.bool (chainB n t l))) else if ii = 5 then some (.reads false (.bool (chainB n t l))) else if ii = 10 then some (.reads false (.bool false)) else if ii = 18 then some (.reads false (.bool false)) else if ii = 23 then some (.reads false (.bool false)) else if ii = 29 then some (.reads false (.int .i64 0)) else none) [8] [] ?_
        simp (maxSteps := 2000000) only [go_sem, reduceIte, reduceCtorEq, zA, zM, zE, zL, zD, zS, zP, zB, zI, zR, ints_len, hxl]
        repeat with_reducible refine cj ?_ ?_
        all_goals try first | (first | exact hic | exact hrc | exact hia | exact hck | (intro hh; (repeat' apply And.intro) <;> first | exact hh | exact hia | exact hck | (intro hf; exact hf.elim) | exact hh.elim)) | (intros; (repeat' apply And.intro) <;> first | assumption | (first | exact hic | exact hrc | exact hia | exact hck | (intro hh; (repeat' apply And.intro) <;> first | exact hh | exact hia | exact hck | (intro hf; exact hf.elim) | exact hh.elim))) | omega | exact ent (by kernel_rfl) | (intro hgd; exact absurd hgd (by decide)) | rfl | (simp only [go_sem, reduceIte, reduceCtorEq, zA, zM, zE, zL, zD, zS, zP, zB, zI, zR, ints_len, hxl]; done) | (intro _hgd; simp_all [go_sem]; done)
        refine hK11 _ _ _ ?_; clear hK11
        refine AW.ret ?_
        rw [← hQr]
        simp only [go_sem, reduceIte, reduceCtorEq, zA, zM, zE, zL, zD, zS, zP, zB, zI, zR, ints_len, hxl]
        exact Wk.of_eq (by simp)
theorem checks_ok {gb : Bool} (n : Nat) (t : List (List Bool)) (hs : Sq n t) (hn : n ≤ 512) (hp : poB n t = true) (hgr : Reads Tryd.prog 9 false [relB t] (.bool gb)) (l : List Int) (b : List Bool) (hb0 : b.length = n) (cs : List (List Int)) (hl : l.length ≤ 9223372036854775807) (hc1 : cs.length ≤ 9223372036854775807) (hc2 : ∀ c ∈ cs, c.length ≤ 9223372036854775807) :
    Reads Tryd.prog 4 false [relB t, .rsl 1 (ints l), .agg [.int .i64 n, .rsl 1 (words (setW b n))], .rsl 1 (M.nbR cs)] (.bool true) := by
  have haw := awake_r
  have hlo := long_r cs hc1 hc2
  have hrv := rval_g n t hs hn
  rw [hp] at hrv
  have hta := (R.table_r n t hs hn).old
  have hic := ischain_g n t hs hn hp l hl
  have hrc := rchain_r n t hs hn l hl
  have hia := isanti_g n t hs hn hp b hb0
  have hra := ranti_g n t hs hn b hb0
  have hck := fun h1 h2 => check_g n t hs hn hp b hb0 cs h1 h2
  have hrp := fun h1 h2 => rpart_r n t hs hn cs h1 h2
  have hsz := rsize_r b (by omega)
  have hml := memB_le b
  have hwl := setB_len (b := b) (by omega)
  rw [hb0] at hsz hwl
  have hnl := M.nbR_len cs
  generalize setW b n = W at *
  generalize hmb : (memB b).length = mb at *
  have hxl := words_len W
  unfold relB at *
  refine Reads.body (rs := [.tmp 8]) Tryd.func4 rfl Tryd.ntmps4 rfl (by simp) ?_
  generalize hQr : retQ _ _ _ = Qr
  refine AW.seq fun K1 hK1 => ?_
  refine AW.regionK 0 (fun _ => none) [1, 3, 4, 6] [4, 6] ?_
  simp only [go_sem, reduceIte, reduceCtorEq, zA, zM, zE, zL, zD, zS, zP, zB, zI, zR, ints_len, hxl, hnl]
  repeat with_reducible refine cj ?_ ?_
  all_goals try first | omega
  refine hK1 _ _ _ ?_; clear hK1
  refine AW.seq fun K2 hK2 => ?_
  refine AW.seq fun K3 hK3 => ?_
  refine AW.regionK 0 (fun ii => if ii = 0 then some (.reads false (.bool true)) else none) [1, 3, 4, 6, 12] [4, 6] ?_
  simp only [go_sem, reduceIte, reduceCtorEq, zA, zM, zE, zL, zD, zS, zP, zB, zI, zR, ints_len, hxl, hnl]
  repeat with_reducible refine cj ?_ ?_
  all_goals try first | (exact haw) | omega | exact ent (by kernel_rfl)
  refine hK3 _ _ _ ?_; clear hK3
  refine AW.cond rfl (by simp only [go_sem, reduceIte, reduceCtorEq, zA, zM, zE, zL, zD, zS, zP, zB, zI, zR]) ?_ ?_
  · intro hb
    try simp only [hB, decide_eq_true_eq, decide_eq_false_iff_not] at hb
    exfalso; simp at hb
  · intro hb
    try simp only [hB, decide_eq_true_eq, decide_eq_false_iff_not] at hb
    refine AW.skip ?_
    refine hK2 _ _ _ ?_; clear hK2
    refine AW.seq fun K4 hK4 => ?_
    refine AW.seq fun K5 hK5 => ?_
    refine AW.regionK 0 (fun ii => if ii = 1 then some (.reads false (.bool gb)) else if ii = 15 then some (.reads false (.bool (longB cs))) else none) [1, 3, 4, 6, 29] [4, 6] ?_
    simp only [go_sem, reduceIte, reduceCtorEq, zA, zM, zE, zL, zD, zS, zP, zB, zI, zR, ints_len, hxl, hnl]
    repeat with_reducible refine cj ?_ ?_
    all_goals try first | (first | exact hgr | (intro hh; exact ⟨hh, hlo⟩)) | (intros; (repeat' apply And.intro) <;> first | assumption | (first | exact hgr | (intro hh; exact ⟨hh, hlo⟩))) | omega | exact ent (by kernel_rfl) | (intro hgd; exact absurd hgd (by decide)) | rfl | (simp only [go_sem, reduceIte, reduceCtorEq, zA, zM, zE, zL, zD, zS, zP, zB, zI, zR, ints_len, hxl, hnl]; done) | (intro _hgd; simp_all [go_sem]; done)
    refine hK5 _ _ _ ?_; clear hK5
    refine AW.cond rfl (by simp only [go_sem, reduceIte, reduceCtorEq, zA, zM, zE, zL, zD, zS, zP, zB, zI, zR]) ?_ ?_
    · intro hb
      try simp only [hB, decide_eq_true_eq, decide_eq_false_iff_not] at hb
      refine AW.seq fun K6 hK6 => ?_
      refine AW.regionK 0 (fun _ => none) [8] [] ?_
      simp only [go_sem, reduceIte, reduceCtorEq, zA, zM, zE, zL, zD, zS, zP, zB, zI, zR, ints_len, hxl, hnl]
      repeat with_reducible refine cj ?_ ?_
      all_goals try first | omega
      refine hK6 _ _ _ ?_; clear hK6
      refine AW.ret ?_
      rw [← hQr]
      simp only [go_sem, reduceIte, reduceCtorEq, zA, zM, zE, zL, zD, zS, zP, zB, zI, zR, ints_len, hxl, hnl]
      exact Wk.refl _
    · intro hb
      try simp only [hB, decide_eq_true_eq, decide_eq_false_iff_not] at hb
      have hlb : longB cs = false := by revert hb; cases longB cs <;> simp
      have hbd := longB_bnd hlb
      have hck := hck (by omega) (fun c hc => by have := hbd.2 c hc; omega)
      have hrp := hrp (by omega) (fun c hc => by have := hbd.2 c hc; omega)
      refine AW.skip ?_
      refine hK4 _ _ _ ?_; clear hK4
      refine AW.seq fun K7 hK7 => ?_
      refine AW.seq fun K8 hK8 => ?_
      refine AW.regionK 0 (fun ii => if ii = 1 then some (.reads false (.bool true)) else none) [1, 3, 4, 6, 32] [4, 6] ?_
      simp only [go_sem, reduceIte, reduceCtorEq, zA, zM, zE, zL, zD, zS, zP, zB, zI, zR, ints_len, hxl, hnl]
      repeat with_reducible refine cj ?_ ?_
      all_goals try first | (exact hrv) | omega | exact ent (by kernel_rfl)
      refine hK8 _ _ _ ?_; clear hK8
      refine AW.cond rfl (by simp only [go_sem, reduceIte, reduceCtorEq, zA, zM, zE, zL, zD, zS, zP, zB, zI, zR]) ?_ ?_
      · intro hb
        try simp only [hB, decide_eq_true_eq, decide_eq_false_iff_not] at hb
        exfalso; simp at hb
      · intro hb
        try simp only [hB, decide_eq_true_eq, decide_eq_false_iff_not] at hb
        refine AW.skip ?_
        refine hK7 _ _ _ ?_; clear hK7
        refine AW.seq fun K9 hK9 => ?_
        refine AW.regionK 0 (fun ii => if ii = 1 then some (.reads false (.rsl 1 (rowsR t))) else none) [1, 3, 4, 6, 9] [4, 6] ?_
        simp only [go_sem, reduceIte, reduceCtorEq, zA, zM, zE, zL, zD, zS, zP, zB, zI, zR, ints_len, hxl, hnl]
        repeat with_reducible refine cj ?_ ?_
        all_goals try first | (exact hta) | omega | exact ent (by kernel_rfl)
        refine hK9 _ _ _ ?_; clear hK9
        refine AW.seq fun K10 hK10 => ?_
        refine AW.regionK 0 (fun ii => if ii = 2 then some (.reads false (.bool (antiB t b))) else none) [1, 3, 4, 6, 9, 10] [4, 6] ?_
        simp only [go_sem, reduceIte, reduceCtorEq, zA, zM, zE, zL, zD, zS, zP, zB, zI, zR, ints_len, hxl, hnl]
        repeat with_reducible refine cj ?_ ?_
        all_goals try first | (exact hra) | omega | exact ent (by kernel_rfl)
        refine hK10 _ _ _ ?_; clear hK10
        refine AW.seq fun K11 hK11 => ?_
        refine AW.regionK 0 (fun ii => if ii = 2 then some (.reads false (.bool (chainB n t l))) else if ii = 5 then some (.reads false (.bool (chainB n t l))) else if ii = 10 then some (.reads false (.bool (antiB t b))) else if ii = 18 then some (.reads false (.bool (antiB t b && decide (cs.length = mb) && partB n t cs))) else if ii = 23 then some (.reads false (.bool (partB n t cs))) else if ii = 29 then some (.reads false (.int .i64 (mb : Nat))) else none) [8] [] ?_
        simp (maxSteps := 2000000) only [go_sem, reduceIte, reduceCtorEq, zA, zM, zE, zL, zD, zS, zP, zB, zI, zR, ints_len, hxl, hnl]
        repeat with_reducible refine cj ?_ ?_
        all_goals try first | (first | exact hic | exact hrc | exact hia | exact hck | exact hrp | exact hsz | (intro hh; (repeat' apply And.intro) <;> first | exact hh | exact hia | exact hck | exact hrp | exact hsz | omega)) | (intros; (repeat' apply And.intro) <;> first | assumption | (first | exact hic | exact hrc | exact hia | exact hck | exact hrp | exact hsz | (intro hh; (repeat' apply And.intro) <;> first | exact hh | exact hia | exact hck | exact hrp | exact hsz | omega))) | omega | exact ent (by kernel_rfl) | (intro hgd; exact absurd hgd (by decide)) | rfl | (simp only [go_sem, reduceIte, reduceCtorEq, zA, zM, zE, zL, zD, zS, zP, zB, zI, zR, ints_len, hxl, hnl]; done) | (intro _hgd; simp_all [go_sem]; done)
        refine hK11 _ _ _ ?_; clear hK11
        refine AW.ret ?_
        rw [← hQr]
        simp only [go_sem, reduceIte, reduceCtorEq, zA, zM, zE, zL, zD, zS, zP, zB, zI, zR, ints_len, hxl, hnl]
        have e : decide ((cs.length : Int) = (mb : Int)) = decide (cs.length = mb) := decide_eq_decide.2 (by omega)
        refine Wk.of_eq ?_
        rw [e]
        cases antiB t b <;> cases partB n t cs <;> simp
theorem law_checks (rs : List USet) (hlr : longR rs) (hok : ∀ x ∈ rs, okW x.W) (l : List Int) (x : USet) (cs : List (List Int)) (hl : l.length ≤ 9223372036854775807) (hx : x.W.length ≤ 9223372036854775807) (hox : okW x.W) (hc1 : cs.length ≤ 9223372036854775807) (hc2 : ∀ c ∈ cs, c.length ≤ 9223372036854775807) :
    Reads Tryd.prog 4 false [relV rs, .rsl 1 (ints l), .agg [.int .i64 x.N, .rsl 1 (words x.W)], .rsl 1 (M.nbR cs)] (.bool true) := by
  by_cases hv : validR rs = true
  · obtain ⟨t, ht, hs, hn⟩ := rel_of hok hv
    have hgr := great_r rs hlr
    rw [ht, ← relB_SB] at hgr
    generalize rs.length = n at *
    by_cases hp : poB n t = true
    · rw [ht, ← relB_SB]
      cases hset : decide (x.N = n) && validS n x.W with
      | false => exact checks_no n t hs hn hp hgr l x cs hl hx hc1 hc2 hset
      | true =>
        simp only [Bool.and_eq_true, decide_eq_true_eq] at hset
        obtain ⟨b, h1, h2⟩ := setW_of hox hset.2
        have hb0 : b.length = n := by omega
        rw [hset.1, h2, hb0]
        exact checks_ok n t hs hn hp hgr l b hb0 cs hl hc1 hc2
    · have hp : poB n t = false := by simpa using hp
      have h1 := pvalid_g n t hs hn
      have h2 := rval_g n t hs hn
      rw [hp] at h1 h2
      refine checks_bad rs hlr l x cs hl hx hc1 hc2 ?_ ?_
      · rw [ht, ← relB_SB]; exact h1
      · rw [ht, ← relB_SB]; exact h2
  · have hv : validR rs = false := by simpa using hv
    exact checks_bad rs hlr l x cs hl hx hc1 hc2 (pvalid_e rs hlr hv) (rval_e rs hlr hv)
end Go.Proofs.W

/- Arguments that are read as data, as pure trees. -/
namespace Go.AM

inductive F2 {α β : Type} (R : α → β → Prop) : List α → List β → Prop
  | nil : F2 R [] []
  | cons {a b l r} (h : R a b) (t : F2 R l r) : F2 R (a :: l) (b :: r)

/-- The shape of a type's cells. -/
def Fit (P : Program) : Nat → TypeId → List AV → Prop
  | 0, _, _ => False
  | f + 1, t, avs => match P.underlying t with
    | some .bool => ∃ b, avs = [.bool b]
    | some (.int k) => ∃ n, avs = [.int k n] ∧ k.min ≤ n ∧ n ≤ k.max
    | some .string => ∃ s, avs = [.str s]
    | some (.slice e) => P.cellsOf e = 0 ∨ ∃ es, avs = [.rsl (P.cellsOf e) es] ∧ es.length ≤ maxLen ∧ ∀ x ∈ es, x.length = P.cellsOf e ∧ Fit P f e x
    | some (.struct fs) => ∃ parts : List (List AV), avs = parts.flatten ∧ F2 (fun (fl : Field) p => p.length = P.cellsOf fl.type ∧ Fit P f fl.type p) fs.toList parts
    | some (.array n e) => ∃ parts : List (List AV), avs = parts.flatten ∧ parts.length = n ∧ ∀ p ∈ parts, p.length = P.cellsOf e ∧ Fit P f e p
    | _ => True

abbrev immW (w : World) : Nat → Prop := immF w fun _ => False
def Match (w : World) (avs : List AV) (cs : List Value) : Prop := avs.length = cs.length ∧ ∀ i, i < avs.length → RelP (immW w) w (avs.getD i .any) (cs.getD i undef)

theorem Match.append {w : World} {a a' : List AV} {c c' : List Value} (h : Match w a c) (h' : Match w a' c') : Match w (a ++ a') (c ++ c') := by
  obtain ⟨h1, h2⟩ := h
  obtain ⟨k1, k2⟩ := h'
  refine ⟨by simp [h1, k1], fun i hi => ?_⟩
  rw [getD_append, getD_append, ← h1]
  by_cases hlt : i < a.length
  · rw [if_pos hlt, if_pos hlt]; exact h2 i hlt
  · rw [if_neg hlt, if_neg hlt]
    exact k2 _ (by simp at hi; omega)
theorem Match.one {w : World} {a : AV} {u : Value} (h : RelP (immW w) w a u) : Match w [a] [u] := ⟨rfl, fun i hi => by
  match i, hi with
  | 0, _ => exact h⟩

theorem mapM_some {α β : Type} {f : α → Option β} : ∀ {l : List α} {r : List β}, l.mapM f = some r → F2 (fun a b => f a = some b) l r
  | [], r, h => by
    simp only [List.mapM_nil, Option.pure_def, Option.some.injEq] at h
    subst h; exact .nil
  | a :: l, r, h => by
    rw [List.mapM_cons] at h
    cases ha : f a with
    | none => simp [ha] at h
    | some b =>
      cases hl : l.mapM f with
      | none => simp [ha, hl] at h
      | some r' =>
        simp [ha, hl] at h
        subst h
        exact .cons ha (mapM_some hl)

theorem range_mapM {β : Type} {f : Nat → Option β} {n : Nat} {r : List β} (h : (List.range n).mapM f = some r) : r.length = n ∧ ∀ i, i < n → ∃ b, r[i]? = some b ∧ f i = some b := by
  have h2 := mapM_some h
  have key : ∀ {l : List Nat} {r : List β}, F2 (fun a b => f a = some b) l r → r.length = l.length ∧ ∀ (i a : Nat), l[i]? = some a → ∃ b, r[i]? = some b ∧ f a = some b := by
    intro l r h
    induction h with
    | nil => exact ⟨rfl, by simp⟩
    | cons h t ih =>
      refine ⟨by simp [ih.1], fun i a ha => ?_⟩
      cases i with
      | zero => simp only [List.getElem?_cons_zero, Option.some.injEq] at ha; subst ha; exact ⟨_, rfl, h⟩
      | succ i => simpa using ih.2 i a (by simpa using ha)
  obtain ⟨k1, k2⟩ := key h2
  refine ⟨by simpa using k1, fun i hi => k2 i i (by simp [hi])⟩

theorem cells?_spec {w : World} {a : Addr} {n : Nat} {cs : List Value} (h : w.cells? 0 a n = some cs) : cs.length = n ∧ ∀ j, j < n → w.cell? (a.add j) = some (cs.getD j undef) := by
  simp only [World.cells?, Nat.zero_le, if_true] at h
  obtain ⟨h1, h2⟩ := range_mapM h
  refine ⟨h1, fun j hj => ?_⟩
  obtain ⟨b, e1, e2⟩ := h2 j hj
  rw [e2, List.getD_eq_getElem?_getD, e1]; rfl

theorem cell?_spot {w : World} {a : Addr} {v : Value} (h : w.cell? a = some v) : a.spot = none ∧ a.block < w.heap.size := by
  unfold World.cell? at h
  split at h
  · rename_i c _ _ hh
    split at h
    · cases h
    · rename_i hs
      exact ⟨by simpa using hs, heap_lt hh⟩
  · cases h

theorem chunks_struct {P : Program} (cs : List Value) : ∀ (fs : List Field) (o : Nat), (∀ (j : Nat) f, fs[j]? = some f → f.offset = o + ((fs.take j).map fun f => P.cellsOf f.type).sum) →
    (fs.map fun f => (cs.drop f.offset).take (P.cellsOf f.type)).flatten = (cs.drop o).take ((fs.map fun f => P.cellsOf f.type).sum)
  | [], o, _ => by simp
  | f :: fs, o, h => by
    have h0 := h 0 f rfl
    simp at h0
    have ih := chunks_struct (P := P) cs fs (o + P.cellsOf f.type) fun j g hj => by
      have := h (j + 1) g (by simpa using hj)
      rw [this]
      simp [Nat.add_assoc]
    simp only [List.map_cons, List.flatten_cons, List.sum_cons, ih, h0]
    rw [List.take_add, List.drop_drop]

theorem chunks_array (cs : List Value) (m : Nat) : ∀ n, ((List.range n).map fun i => (cs.drop (i * m)).take m).flatten = cs.take (n * m)
  | 0 => by simp
  | n + 1 => by
    rw [List.range_succ, List.map_append, List.flatten_append, chunks_array cs m n, Nat.succ_mul, List.take_add]
    simp

theorem match_flatten {α : Type} {w : World} {g : α → List Value} {p : α → List AV → Prop} : ∀ {l : List α} {parts : List (List AV)}, F2 (fun a x => p a x ∧ Match w x (g a)) l parts → Match w parts.flatten (l.map g).flatten
  | _, _, .nil => ⟨rfl, by simp⟩
  | _, _, .cons h t => by
    simp only [List.flatten_cons, List.map_cons]
    exact h.2.append (match_flatten t)

theorem forall2_imp {α β : Type} {R S : α → β → Prop} (h : ∀ a b, R a b → S a b) : ∀ {l : List α} {r : List β}, F2 R l r → F2 S l r
  | _, _, .nil => .nil
  | _, _, .cons h1 t => .cons (h _ _ h1) (forall2_imp h t)
theorem forall2_len {α β : Type} {R : α → β → Prop} : ∀ {l : List α} {r : List β}, F2 R l r → l.length = r.length
  | _, _, .nil => rfl
  | _, _, .cons _ t => by simp [forall2_len t]
theorem forall2_right {α β : Type} {R : α → β → Prop} {Q : β → Prop} (h : ∀ a b, R a b → Q b) : ∀ {l : List α} {r : List β}, F2 R l r → ∀ b ∈ r, Q b
  | _, _, .nil, b, hb => by cases hb
  | _, _, .cons h1 t, b, hb => by
    rcases List.mem_cons.1 hb with rfl | hb
    · exact h _ _ h1
    · exact forall2_right h t b hb

theorem fit_of_trod {H : Type} {enc : TypeId × Value → H} {P : Program} {w : World} (hl : laidOutB P = true) : ∀ (n : Nat) (t : TypeId) (cs : List Value) (x : DataW H × List MemPlace), t < P.types.size →
    DataW.trod enc P w 0 (fun _ => true) true n t cs = some x → ∃ avs, Fit P n t avs ∧ Match w avs cs := by
  intro n
  induction n with
  | zero => intro t cs x _ h; simp [DataW.trod] at h
  | succ n ih =>
    intro t cs x ht h
    have hany : (match P.underlying t with | some .bool | some (.int _) | some .string | some (.slice _) | some (.struct _) | some (.array _ _) => False | _ => True) → ∃ avs, Fit P (n + 1) t avs ∧ Match w avs cs := fun hh => by
      refine ⟨List.replicate cs.length .any, ?_, by simp, fun i hi => ?_⟩
      · unfold Fit
        split <;> simp_all
      · have : (List.replicate cs.length AV.any).getD i .any = .any := by
          simp only [List.getD_eq_getElem?_getD]
          cases h : (List.replicate cs.length AV.any)[i]? with
          | none => rfl
          | some y => simp [List.getElem?_replicate] at h; simp [h.2]
        rw [this]; exact .any _
    by_cases hh : (match P.underlying t with | some .bool | some (.int _) | some .string | some (.slice _) | some (.struct _) | some (.array _ _) => False | _ => True)
    · exact hany hh
    cases hu : P.underlying t with
    | none => exact absurd (by rw [hu]; trivial) hh
    | some d =>
      rw [hu] at hh
      cases d <;> first | exact absurd trivial hh | skip
      case bool =>
        unfold DataW.trod at h
        rw [hu] at h
        rcases cs with _ | ⟨c, _ | ⟨c2, rest⟩⟩ <;> (try cases c) <;> simp at h
        exact ⟨[.bool _], by unfold Fit; rw [hu]; exact ⟨_, rfl⟩, .one (.bool _)⟩
      case int k =>
        unfold DataW.trod at h
        rw [hu] at h
        rcases cs with _ | ⟨c, _ | ⟨c2, rest⟩⟩ <;> (try cases c) <;> simp at h
        rename_i k' m
        obtain ⟨⟨rfl, h1⟩, _⟩ := h
        exact ⟨[.int k' m], by unfold Fit; rw [hu]; exact ⟨_, rfl, by simpa [Lit.wf] using h1⟩, .one (.int _ _)⟩
      case string =>
        unfold DataW.trod at h
        rw [hu] at h
        rcases cs with _ | ⟨c, _ | ⟨c2, rest⟩⟩ <;> (try cases c) <;> simp at h
        exact ⟨[.str _], by unfold Fit; rw [hu]; exact ⟨_, rfl⟩, .one (.str _)⟩
      case slice e =>
        have he := kid_slice hl ht hu
        unfold DataW.trod at h
        rw [hu] at h
        have hbad : ∀ c c2 rest, cs ≠ c :: c2 :: rest := fun c c2 rest e => by subst e; cases c <;> simp at h
        rcases cs with _ | ⟨c, _ | ⟨c2, rest⟩⟩
        · simp at h
        rotate_left
        · exact absurd rfl (hbad _ _ _)
        cases c <;> first | (simp at h; done) | skip
        rename_i a len cap
        cases a with
        | none =>
          rcases len with _ | len <;> rcases cap with _ | cap <;> first | (simp at h; done) | skip
          exact ⟨[.rsl (P.cellsOf e) []], by unfold Fit; rw [hu]; exact .inr ⟨[], rfl, by simp, by simp⟩, .one (.rnil _ _ _)⟩
        | some a =>
          dsimp only at h
          split at h
          · rename_i hb
            cases hm : (List.range len).mapM (fun i => (w.cells? 0 (a.add (i * P.cellsOf e)) (P.cellsOf e)).bind (DataW.trod enc P w 0 (fun _ => true) true n e)) with
            | none => rw [hm] at h; simp at h
            | some elems =>
              obtain ⟨k1, k2⟩ := range_mapM hm
              have k3 : ∀ i, i < len → ∃ avs cs', w.cells? 0 (a.add (i * P.cellsOf e)) (P.cellsOf e) = some cs' ∧ Fit P n e avs ∧ Match w avs cs' := fun i hi => by
                obtain ⟨b, _, e2⟩ := k2 i hi
                cases hc : w.cells? 0 (a.add (i * P.cellsOf e)) (P.cellsOf e) with
                | none => rw [hc] at e2; simp at e2
                | some cs' =>
                  rw [hc] at e2
                  obtain ⟨avs, h1, h2⟩ := ih e cs' b he e2
                  exact ⟨avs, cs', rfl, h1, h2⟩
              classical
              let F : Nat → List AV := fun i => if hi : i < len then Classical.choose (k3 i hi) else []
              let es := (List.range len).map F
              have hlen : es.length = len := by simp [es]
              have hget : ∀ i, i < len → es.getD i [] = F i := fun i hi => by simp [es, List.getD_eq_getElem?_getD, hi]
              have hF : ∀ i, i < len → ∃ cs', w.cells? 0 (a.add (i * P.cellsOf e)) (P.cellsOf e) = some cs' ∧ Fit P n e (F i) ∧ Match w (F i) cs' := fun i hi => by
                have := Classical.choose_spec (k3 i hi)
                simp only [F, dif_pos hi]
                exact this
              have hes : ∀ x ∈ es, x.length = P.cellsOf e ∧ Fit P n e x := fun x hx => by
                simp only [es, List.mem_map, List.mem_range] at hx
                obtain ⟨i, hi, rfl⟩ := hx
                obtain ⟨cs', h1, h2, h3⟩ := hF i hi
                exact ⟨h3.1.trans (cells?_spec h1).1, h2⟩
              rcases Nat.eq_zero_or_pos (P.cellsOf e) with hz | hz
              · exact ⟨[.any], by unfold Fit; rw [hu]; exact .inl hz, .one (.any _)⟩
              refine ⟨[.rsl (P.cellsOf e) es], by unfold Fit; rw [hu]; exact .inr ⟨es, rfl, by rw [hlen]; omega, hes⟩, .one ?_⟩
              rcases Nat.eq_zero_or_pos len with h0 | h0
              · have : es = [] := List.length_eq_zero_iff.1 (by omega)
                rw [this, h0]; exact .rnil _ _ _
              · have hcell : ∀ i j, i < len → j < P.cellsOf e → ∃ v, w.cell? ((a.add (i * P.cellsOf e)).add j) = some v ∧ RelP (immW w) w ((es.getD i []).getD j .any) v := fun i j hi hj => by
                  obtain ⟨cs', h1, h2, h3⟩ := hF i hi
                  obtain ⟨g1, g2⟩ := cells?_spec h1
                  refine ⟨_, g2 j hj, ?_⟩
                  rw [hget i hi]
                  exact h3.2 j (by rw [h3.1, g1]; exact hj)
                obtain ⟨v0, g1, _⟩ := hcell 0 0 h0 hz
                simp only [Nat.zero_mul, Addr.add, if_true] at g1
                obtain ⟨hs, hblk⟩ := cell?_spot g1
                obtain ⟨b, off, sp⟩ := a
                simp only at hs
                subst hs
                have hadd : ∀ i j, ((⟨b, off, none⟩ : Addr).add (i * P.cellsOf e)).add j = ⟨b, off + i * P.cellsOf e + j, none⟩ := fun i j => by
                  simp only [Addr.add]
                  split <;> split <;> simp_all
                rw [← hlen]
                refine .rsl _ es b off cap (fun i j => (w.cell? ⟨b, off + i * P.cellsOf e + j, none⟩).getD undef) (by omega) ⟨hblk, fun h => h⟩ (fun x hx => (hes x hx).1) (fun i j hi hj => ?_) (fun i j hi hj => ?_)
                · obtain ⟨v, e1, _⟩ := hcell i j (by omega) hj
                  rw [hadd] at e1
                  simp [e1]
                · obtain ⟨v, e1, e2⟩ := hcell i j (by omega) hj
                  rw [hadd] at e1
                  simpa [e1] using e2
          · cases h
      case struct fs =>
        obtain ⟨hk1, hk2, hk3⟩ := kid_struct hl ht hu
        unfold DataW.trod at h
        rw [hu] at h
        dsimp only at h
        split at h
        · rename_i hlen
          cases hm : (fs.toList.mapM fun f => DataW.trod enc P w 0 (fun _ => true) true n f.type ((cs.drop f.offset).take (P.cellsOf f.type))) with
          | none => rw [hm] at h; simp at h
          | some xs =>
            have h2 := mapM_some hm
            have h3 : ∃ parts : List (List AV), F2 (fun (fl : Field) p => (p.length = P.cellsOf fl.type ∧ Fit P n fl.type p) ∧ Match w p ((cs.drop fl.offset).take (P.cellsOf fl.type))) fs.toList parts := by
              have hall : ∀ f ∈ fs.toList, f.type < P.types.size ∧ f.offset + P.cellsOf f.type ≤ cs.length := fun f hf => by
                refine ⟨hk1 f hf, ?_⟩
                obtain ⟨j, hj, rfl⟩ := List.mem_iff_getElem.1 hf
                have h5 := hk3 j fs.toList[j] (List.getElem?_eq_getElem hj)
                rw [h5, hlen, hk2]
                have h6 : (fs.toList.map fun f => P.cellsOf f.type).sum = ((fs.toList.take j).map fun f => P.cellsOf f.type).sum + ((fs.toList.drop j).map fun f => P.cellsOf f.type).sum := by
                  rw [← List.sum_append, ← List.map_append, List.take_append_drop]
                rw [h6, List.drop_eq_getElem_cons hj]
                simp
              clear hm h hk1 hk2 hk3
              generalize fs.toList = l at h2 hall
              induction h2 with
              | nil => exact ⟨[], .nil⟩
              | cons h1 t ih2 =>
                rename_i f y l' r'
                obtain ⟨parts, hp⟩ := ih2 fun f hf => hall f (List.mem_cons_of_mem _ hf)
                obtain ⟨g1, g2⟩ := hall f (List.mem_cons_self ..)
                obtain ⟨avs, k1, k2⟩ := ih _ _ _ g1 h1
                exact ⟨avs :: parts, .cons ⟨⟨by rw [k2.1]; simp; omega, k1⟩, k2⟩ hp⟩
            obtain ⟨parts, hp⟩ := h3
            refine ⟨parts.flatten, by unfold Fit; rw [hu]; exact ⟨parts, rfl, forall2_imp (fun _ _ h => h.1) hp⟩, ?_⟩
            have h4 := match_flatten hp
            rw [chunks_struct cs fs.toList 0 (fun j f hj => by simpa using hk3 j f hj)] at h4
            rw [← hk2, ← hlen] at h4
            simpa using h4
        · cases h
      case array m e =>
        obtain ⟨he, hsz⟩ := kid_array hl ht hu
        unfold DataW.trod at h
        rw [hu] at h
        dsimp only at h
        split at h
        · rename_i hlen
          cases hm : ((List.range m).mapM fun i => DataW.trod enc P w 0 (fun _ => true) true n e ((cs.drop (i * P.cellsOf e)).take (P.cellsOf e))) with
          | none => rw [hm] at h; simp at h
          | some xs =>
            have h2 := mapM_some hm
            have h3 : ∃ parts : List (List AV), F2 (fun (i : Nat) p => (p.length = P.cellsOf e ∧ Fit P n e p) ∧ Match w p ((cs.drop (i * P.cellsOf e)).take (P.cellsOf e))) (List.range m) parts := by
              have hall : ∀ i ∈ List.range m, (i + 1) * P.cellsOf e ≤ cs.length := fun i hi => by
                rw [hlen, hsz]
                exact Nat.mul_le_mul_right _ (by have := List.mem_range.1 hi; omega)
              clear hm h hsz
              generalize List.range m = l at h2 hall
              induction h2 with
              | nil => exact ⟨[], .nil⟩
              | cons h1 t ih2 =>
                rename_i i y l' r'
                obtain ⟨parts, hp⟩ := ih2 fun f hf => hall f (List.mem_cons_of_mem _ hf)
                have g2 := hall i (List.mem_cons_self ..)
                obtain ⟨avs, k1, k2⟩ := ih _ _ _ he h1
                rw [Nat.succ_mul] at g2
                exact ⟨avs :: parts, .cons ⟨⟨by rw [k2.1]; simp; omega, k1⟩, k2⟩ hp⟩
            obtain ⟨parts, hp⟩ := h3
            refine ⟨parts.flatten, by unfold Fit; rw [hu]; exact ⟨parts, rfl, by have := forall2_len hp; simpa using this.symm, forall2_right (fun _ _ h => h.1) hp⟩, ?_⟩
            have h4 := match_flatten (g := fun i => (cs.drop (i * P.cellsOf e)).take (P.cellsOf e)) hp
            rw [chunks_array, ← hsz, ← hlen] at h4
            simpa using h4
        · cases h

end Go.AM

/- A law's contract out of a contract over pure trees. -/
namespace Go.AM
open Go.RowKit Go.WideShapes Go.ChangeShapes

def aggT (P : Program) (t : TypeId) : Bool :=
  match P.underlying t with
  | some (.struct _) | some (.array _ _) => true
  | _ => false
def supT (P : Program) (t : TypeId) : Bool :=
  match P.underlying t with
  | some .bool | some (.int _) | some .string | some (.slice _) | some (.struct _) | some (.array _ _) => true
  | _ => false
def argAV (P : Program) (t : TypeId) (avs : List AV) : AV := if aggT P t then .agg avs else avs.getD 0 .any
def argsAV (P : Program) : List TypeId → List (List AV) → List AV
  | t :: ts, a :: avs => argAV P t a :: argsAV P ts avs
  | _, _ => []

theorem match_arg {P : Program} {w : World} {t : TypeId} {v : Value} {avs : List AV} {base : Nat} (hs : supT P t = true) (hok : Value.okWide P w .any base t v) (h : Match w avs v.cells.toList) : RelP (immW w) w (argAV P t avs) v := by
  have hone : (∀ cs, v ≠ .agg cs) → aggT P t = false → RelP (immW w) w (argAV P t avs) v := fun hv ha => by
    have hc : v.cells.toList = [v] := by
      cases v <;> first | rfl | exact absurd rfl (hv _)
    rw [hc] at h
    unfold argAV
    rw [ha]
    exact h.2 0 (by rw [h.1]; simp)
  have hagg : (∃ cs, v = .agg cs) → aggT P t = true → RelP (immW w) w (argAV P t avs) v := fun ⟨cs, e⟩ ha => by
    subst e
    unfold argAV
    rw [ha]
    obtain ⟨l⟩ := cs
    exact .agg _ _ h.1 h.2
  cases hu : P.underlying t with
  | none => simp [supT, hu] at hs
  | some d =>
    cases d <;> first | (simp [supT, hu] at hs; done) | skip
    case bool => obtain ⟨b, rfl⟩ := okWide_bool hu hok; exact hone (by simp) (by simp [aggT, hu])
    case int => obtain ⟨b, rfl⟩ := okWide_int hu hok; exact hone (by simp) (by simp [aggT, hu])
    case string => obtain ⟨b, rfl⟩ := okWide_string hu hok; exact hone (by simp) (by simp [aggT, hu])
    case slice => obtain ⟨b, _, _, rfl⟩ := okWide_slice hu hok; exact hone (by simp) (by simp [aggT, hu])
    case struct => obtain ⟨cs, rfl, _⟩ := okWide_struct hu hok; exact hagg ⟨_, rfl⟩ (by simp [aggT, hu])
    case array =>
      unfold Value.okWide at hok
      rw [hu] at hok
      obtain ⟨cs, rfl, _⟩ := hok
      exact hagg ⟨_, rfl⟩ (by simp [aggT, hu])

theorem args_match {H : Type} {enc : TypeId × Value → H} {P : Program} {w : World} {base : Nat} (hl : laidOutB P = true) : ∀ {ts : List TypeId} {vs : List Value} {ds : List (DataW H)} {ps : List MemPlace}, (∀ t ∈ ts, t < P.types.size ∧ supT P t = true) →
    (∀ (j : Nat) t v, ts[j]? = some t → vs[j]? = some v → Value.okWide P w .any base t v) → DataW.TrodAll enc P w 0 (fun _ => true) true ts vs ds ps →
    ∃ ass, F2 (fun t avs => ∃ n, Fit P n t avs) ts ass ∧ (argsAV P ts ass).length = vs.length ∧ ∀ i, i < vs.length → RelP (immW w) w ((argsAV P ts ass).getD i .any) (vs.getD i undef)
  | [], vs, ds, ps, _, _, h => by
    obtain ⟨rfl, _, _⟩ := trodAll_nil h
    exact ⟨[], .nil, rfl, by simp⟩
  | t :: ts, vs, ds, ps, hts, hv, h => by
    obtain ⟨v, vs', d, ds', p, q, rfl, rfl, rfl, ⟨n, h1⟩, h2⟩ := trodAll_cons h
    obtain ⟨avs, k1, k2⟩ := fit_of_trod hl n t _ _ (hts t (List.mem_cons_self ..)).1 h1
    obtain ⟨ass, j1, j2, j3⟩ := args_match hl (fun t ht => hts t (List.mem_cons_of_mem _ ht)) (fun j t v e1 e2 => hv (j + 1) t v (by simpa using e1) (by simpa using e2)) h2
    refine ⟨avs :: ass, .cons ⟨n, k1⟩ j1, by simp [argsAV, j2], fun i hi => ?_⟩
    cases i with
    | zero => simpa [argsAV] using match_arg (hts t (List.mem_cons_self ..)).2 (hv 0 t v rfl rfl) k2
    | succ i => simpa [argsAV] using j3 i (by simpa using hi)

theorem Ext.below {w w' : World} (h : Ext (fun _ => False) w w') : Below w.heap.size w w' := ⟨h.os, h.tape, h.output, h.size, fun k hk => h.block k hk fun e => e⟩

theorem trodAll_below {H : Type} {enc : TypeId × Value → H} {P : Program} {W W' : World} (hl : laidOutB P = true) (hb : Below W.heap.size W W') {sp : Nat → Bool} : ∀ {ts : List TypeId} {vs : List Value} {ds : List (DataW H)} {ps : List MemPlace},
    (∀ t ∈ ts, t < P.types.size ∧ P.readableRec t = true) → DataW.TrodAll enc P W 0 (fun _ => true) true ts vs ds ps → (∀ p ∈ ps, p.block < W.heap.size ∧ sp p.block = true) → DataW.TrodAll enc P W' 0 sp true ts vs ds ps
  | [], vs, ds, ps, _, h, _ => by
    obtain ⟨rfl, rfl, rfl⟩ := trodAll_nil h
    rfl
  | t :: ts, vs, ds, ps, hts, h, hp => by
    obtain ⟨v, vs', d, ds', p, q, rfl, rfl, rfl, h1, h2⟩ := trodAll_cons h
    obtain ⟨g1, g2⟩ := hts t (List.mem_cons_self ..)
    exact ⟨p, q, WideElems.Trod_stays hl g2 g1 h1 (fun x hx => hb.same (hp x (List.mem_append_left _ hx)).1) (fun x hx => (hp x (List.mem_append_left _ hx)).2),
      trodAll_below hl hb (fun t ht => hts t (List.mem_cons_of_mem _ ht)) h2 (fun x hx => hp x (List.mem_append_right _ hx)), rfl⟩

theorem trodAll_len {H : Type} {enc : TypeId × Value → H} {P : Program} {w : World} {b : Nat} {sp : Nat → Bool} {hd : Bool} : ∀ {ts : List TypeId} {vs : List Value} {ds : List (DataW H)} {ps : List MemPlace}, DataW.TrodAll enc P w b sp hd ts vs ds ps → vs.length = ts.length ∧ ds.length = ts.length
  | [], vs, ds, ps, h => by
    obtain ⟨rfl, rfl, rfl⟩ := trodAll_nil h
    exact ⟨rfl, rfl⟩
  | t :: ts, vs, ds, ps, h => by
    obtain ⟨v, vs', d, ds', p, q, rfl, rfl, rfl, _, h2⟩ := trodAll_cons h
    have := trodAll_len h2
    exact ⟨by simp [this.1], by simp [this.2]⟩

/-- What the form asks of a law's call, out of a contract over pure trees. -/
theorem law_contract {H : Type} {enc : TypeId × Value → H} {P : Program} {fn : Func} {f : FuncId} {s : ChangeSpec} (hl : laidOutB P = true) {ts : List TypeId} {T : TypeId} (hps : fn.params.toList = ts) (hrs : fn.resultTypes = #[T]) (hT : P.underlying T = some .bool)
    (hts : ts.all (fun t => decide (t < P.types.size) && supT P t && P.readableRec t) = true) (hvars : s.vars = []) (hs : ∀ ds : List (DataW H), ds.length = ts.length → s.fn H ds = { results := [.lit (.bool true)], args := ds })
    (hread : ∀ ass, F2 (fun t avs => ∃ n, Fit P n t avs) ts ass → Reads P f false (argsAV P ts ass) (.bool true))
    {W : World} {base : Nat} {args : Array Value} {ds gs : List (DataW H)} {before : List MemPlace} (hval : ∀ (j : Nat) t v, fn.params[j]? = some t → args[j]? = some v → Value.okWide P W .any base t v)
    (hW : DataW.Whole enc P fn.params.toList s.vars false W args.toList ds gs before) (hgl : GL (immF W fun _ => False) W) :
    Calls P f args W fun e W' => ∃ v, e = .returned v ∧ s.post enc P fn false true false false W args v W' := by
  have hts' : ∀ t ∈ ts, t < P.types.size ∧ supT P t = true ∧ P.readableRec t = true := fun t ht => by
    have := List.all_eq_true.1 hts t ht
    simpa [and_assoc] using this
  have hW' := hW
  obtain ⟨p, q, hA, hV, rfl, hfz, hnd⟩ := hW
  rw [hvars] at hV
  obtain ⟨rfl, rfl⟩ := trodVars_none hV
  rw [hps] at hA
  obtain ⟨hl1, hl2⟩ := trodAll_len hA
  obtain ⟨ass, j1, j2, j3⟩ := args_match hl (fun t ht => ⟨(hts' t ht).1, (hts' t ht).2.1⟩) (fun j t v e1 e2 => hval j t v (by rw [← hps] at e1; simpa using e1) (by simpa using e2)) hA
  have hc := hread ass j1 W (fun _ => False) args.toList (fun _ h => h.elim) hgl j2.symm (fun i hi => j3 i (by omega))
  rw [show args.toList.toArray = args by simp] at hc
  refine hc.mono fun e W' ⟨u, h1, h2, h3⟩ => ⟨u, h1, ?_⟩
  have hu : u = .bool true := by cases h3; rfl
  subst hu
  have hb := h2.below
  have hlt : ∀ x ∈ p, x.block < W.heap.size := fun x hx => hW'.lt x (by simpa using hx)
  have hsf := hs ds hl2
  have hres : ∀ (b : Nat) (sp : Nat → Bool) (hd : Bool), DataW.TrodAll enc P W' b sp hd fn.resultTypes.toList ((Value.bool true).resultList fn.resultTypes.size) (s.fn H (ds ++ [])).results [] := fun b sp hd => by
    rw [hrs, List.append_nil, hsf]
    exact trodAll_mk1 (shut_bool hT true)
  have hargs : ∀ sp : Nat → Bool, (∀ x ∈ p, sp x.block = true) → DataW.TrodAll enc P W' 0 sp true fn.params.toList args.toList (s.fn H (ds ++ [])).args p := fun sp hsp => by
    rw [List.append_nil, hsf, hps]
    exact trodAll_below hl hb (fun t ht => ⟨(hts' t ht).1, (hts' t ht).2.2⟩) hA fun x hx => ⟨hlt x hx, hsp x hx⟩
  have hvs : ∀ sp : Nat → Bool, DataW.TrodVars enc P W' sp s.vars (s.fn H (ds ++ [])).vars [] := fun sp => by
    rw [List.append_nil, hsf, hvars]; rfl
  refine ⟨ds, [], p ++ [], [], p, [], hW', hres _ _ _, hargs _ (fun x hx => by simpa using hlt x hx), hvs _, World.keptBut_mono (fun x hx => ⟨hx, ?_⟩) (hb.frame (· ∈ p ++ [])), fun _ => ?_⟩
  · simpa using hx
  · refine ⟨ok_one hrs rfl (okWide_bool_mk hT _), _, _, ([] ++ p) ++ [], ⟨[] ++ p, [], trodAll_append (hargs _ (fun _ _ => rfl)) (hres _ _ _), hvs _, rfl, ?_, ?_⟩, ?_⟩
    · intro b off hp
      have hin : MemPlace.cell b off ∈ p := by simpa using hp
      rw [hb.frozen (hlt _ hin)]
      exact hfz b off (by simpa using hin)
    · intro ha; cases ha
    · intro x hx _
      simpa using hx

end Go.AM

/- The shapes of arguments. -/
namespace Go.AM
theorem fit_int {P : Program} {t : TypeId} {k : IntKind} (hu : P.underlying t = some (.int k)) {f : Nat} {x : List AV} (h : Fit P f t x) : ∃ n, x = [.int k n] ∧ k.min ≤ n ∧ n ≤ k.max := by
  cases f with
  | zero => exact h.elim
  | succ f => unfold Fit at h; rw [hu] at h; exact h
theorem fit_slice {P : Program} {t e : TypeId} {m : Nat} (hu : P.underlying t = some (.slice e)) (hm : P.cellsOf e = m) (h0 : m ≠ 0) {f : Nat} {x : List AV} (h : Fit P f t x) : ∃ es f', x = [.rsl m es] ∧ es.length ≤ maxLen ∧ ∀ y ∈ es, Fit P f' e y := by
  cases f with
  | zero => exact h.elim
  | succ f =>
    unfold Fit at h; rw [hu] at h
    rcases h with h | ⟨es, h1, h2, h3⟩
    · exact absurd (hm ▸ h) h0
    · rw [hm] at h1; exact ⟨es, f, h1, h2, fun y hy => (h3 y hy).2⟩
theorem fit_struct {P : Program} {t : TypeId} {fs : Array Field} (hu : P.underlying t = some (.struct fs)) {f : Nat} {x : List AV} (h : Fit P f t x) : ∃ f' parts, x = List.flatten parts ∧ F2 (fun (fl : Field) p => Fit P f' fl.type p) fs.toList parts := by
  cases f with
  | zero => exact h.elim
  | succ f =>
    unfold Fit at h; rw [hu] at h
    obtain ⟨parts, h1, h2⟩ := h
    exact ⟨f, parts, h1, forall2_imp (fun _ _ h => h.2) h2⟩
theorem F2.two {α β : Type} {R : α → β → Prop} {a b : α} {l : List β} (h : F2 R [a, b] l) : ∃ x y, l = [x, y] ∧ R a x ∧ R b y := by
  cases h with | cons h1 t => cases t with | cons h2 t => cases t with | nil => exact ⟨_, _, rfl, h1, h2⟩
theorem F2.four {α β : Type} {R : α → β → Prop} {a b c d : α} {l : List β} (h : F2 R [a, b, c, d] l) : ∃ x y z u, l = [x, y, z, u] ∧ R a x ∧ R b y ∧ R c z ∧ R d u := by
  cases h with | cons h1 t => cases t with | cons h2 t => cases t with | cons h3 t => cases t with | cons h4 t => cases t with | nil => exact ⟨_, _, _, _, rfl, h1, h2, h3, h4⟩
theorem exists_mapP {α β : Type} {f : α → β} {p : α → Prop} : ∀ {l : List β}, (∀ x ∈ l, ∃ a, x = f a ∧ p a) → ∃ m : List α, l = m.map f ∧ ∀ a ∈ m, p a
  | [], _ => ⟨[], rfl, fun _ h => by cases h⟩
  | x :: l, h => by
    obtain ⟨a, rfl, ha⟩ := h x (List.mem_cons_self ..)
    obtain ⟨m, rfl, hm⟩ := exists_mapP fun y hy => h y (List.mem_cons_of_mem _ hy)
    exact ⟨a :: m, rfl, fun b hb => by rcases List.mem_cons.1 hb with rfl | hb; exact ha; exact hm b hb⟩
theorem okW_of {W : List Int} (h : ∀ w ∈ W, 0 ≤ w ∧ w ≤ 18446744073709551615) : okW W := fun i => by
  by_cases hi : i < W.length
  · have := h _ (mem_getD hi 0); omega
  · rw [List.getD_eq_getElem?_getD, List.getElem?_eq_none (by omega)]; simp
end Go.AM

/- A laid table, as the machine's package variable. -/
namespace Go.AM
theorem rptr_of_laid {P : Program} {n : String} {g : Nat} {t e : TypeId} {k : IntKind} {L : List Int} {W : World} (hg : P.globalNamed n = some g) (ht : (P.globals[g]?).map (·.type) = some t) (hu : P.underlying t = some (.array L.length e))
    (hc : P.cellsOf e = 1) (hc2 : P.cellsOf t = L.length) (hu2 : P.underlying e = some (.int k)) (hL : L ≠ []) (h : laidMet P [(n, .agg (L.map fun i => .lit (.int k i)))] W) : RelP (immF W fun _ => False) W (.rptr (L.map (AV.int k))) (.pointer (some ⟨g, 0, none⟩)) := by
  obtain ⟨ps, ⟨g0, t0, cs0, f0, p0, q0, hg0, ht0, hv0, hd0, _, _⟩, _, _⟩ := h
  obtain rfl := Option.some.inj (hg.symm.trans hg0)
  obtain rfl := Option.some.inj (ht.symm.trans ht0)
  obtain ⟨xs, m, rfl, hx, hlen, hn, hel⟩ := DataW.trod_array hu hd0
  have hcell : ∀ j, j < L.length → W.cell? ⟨g, j, none⟩ = some (.int k (L.getD j 0)) := fun j hj => by
    have h0 := hel j hj
    rw [hc, Nat.mul_one] at h0
    have hjx : j < xs.length := by omega
    rw [List.getElem?_eq_getElem hjx] at h0
    obtain ⟨z, e1, e2, _⟩ := DataW.trod_int hu2 h0
    have hxs : xs.map (·.1) = L.map fun i => .lit (.int k i) := by
      simp only [Prod.mk.injEq, DataW.agg.injEq] at hx
      exact hx.1.symm
    have hzj : (xs.map (·.1))[j]? = (L.map fun i => (.lit (.int k i) : DataW Unit))[j]? := by rw [hxs]
    rw [List.getElem?_map, List.getElem?_map, List.getElem?_eq_getElem hjx, List.getElem?_eq_getElem hj, e2] at hzj
    simp only [Option.map_some, Option.some.injEq, DataW.lit.injEq, Lit.int.injEq] at hzj
    have hz : z = L.getD j 0 := by rw [hzj.2]; simp [List.getD_eq_getElem?_getD, hj]
    have hcs : cs0[j]? = some (.int k z) := by
      have hl : cs0.toList.length = L.length := by rw [hlen, hc2]
      have hd : cs0.toList.drop j = cs0.toList[j]'(by omega) :: cs0.toList.drop (j + 1) := List.drop_eq_getElem_cons (by omega)
      rw [hd] at e1
      simp only [List.take_succ_cons, List.take_zero, List.cons.injEq, and_true] at e1
      rw [← Array.getElem?_toList, List.getElem?_eq_getElem (by omega), e1]
    rw [World.var?_cell hg hv0 j, hcs, hz]
  have hlt : g < W.heap.size := by
    cases L with
    | nil => exact absurd rfl hL
    | cons a l =>
      have := hcell 0 (by simp)
      unfold World.cell? at this
      cases hh : W.heap[g]? with
      | none => simp [hh] at this
      | some o => exact heap_lt hh
  refine .rptr _ g 0 (fun j => .int k (L.getD j 0)) ⟨hlt, fun h => h⟩ (fun j hj => ?_) (fun j hj => ?_)
  · rw [List.length_map] at hj
    rw [Nat.zero_add]
    exact hcell j hj
  · rw [List.length_map] at hj
    have e : (L.map (AV.int k)).getD j .any = .int k (L.getD j 0) := by simp [List.getD_eq_getElem?_getD, hj]
    rw [e]
    exact .int _ _
theorem laidMet_of_H {P : Program} {n : String} {k : IntKind} {L : List Int} {W : World} (h : laidMetH P [(n, .agg (L.map fun i => .lit (.int k i)))] W) : laidMet P [(n, .agg (L.map fun i => .lit (.int k i)))] W := by
  rw [MakeChecks.laidMetH_plain _ _ _ (by rfl)] at h
  exact h
end Go.AM

/- The shapes of the width laws' arguments. -/
namespace Go.AM
open Go.Proofs
theorem fit_words {f : Nat} {x : List AV} (h : Fit Tryd.prog f 25 x) : ∃ W : List Int, x = [.rsl 1 (words W)] ∧ W.length ≤ 9223372036854775807 ∧ okW W := by
  obtain ⟨es, f2, rfl, h5, h6⟩ := fit_slice (m := 1) Tryd.underlying25 (by kernel_rfl) (by decide) h
  obtain ⟨ws, rfl, hw⟩ := exists_mapP (f := fun x : Int => [AV.int .u64 x]) (p := fun w => 0 ≤ w ∧ w ≤ 18446744073709551615) fun y hy => by
    obtain ⟨n, e, h1, h2⟩ := fit_int Tryd.underlying60 (h6 y hy)
    exact ⟨n, e, by simpa [IntKind.min, IntKind.signed] using h1, by simpa [IntKind.max, IntKind.signed, IntKind.bits] using h2⟩
  exact ⟨ws, rfl, by simpa [maxLen] using h5, okW_of hw⟩
theorem fit_set {f : Nat} {x : List AV} (h : Fit Tryd.prog f 27 x) : ∃ y : USet, x = rowV y ∧ y.W.length ≤ 9223372036854775807 ∧ okW y.W := by
  obtain ⟨f', parts, rfl, h2⟩ := fit_struct Tryd.underlying27 h
  obtain ⟨a, b, rfl, h3, h4⟩ := F2.two h2
  obtain ⟨i, rfl, _⟩ := fit_int Tryd.underlying3 h3
  obtain ⟨W, rfl, h5, h6⟩ := fit_words h4
  exact ⟨⟨i, W⟩, rfl, h5, h6⟩
theorem F2.one {α β : Type} {R : α → β → Prop} {a : α} {l : List β} (h : F2 R [a] l) : ∃ x, l = [x] ∧ R a x := by
  cases h with | cons h1 t => cases t with | nil => exact ⟨_, rfl, h1⟩
theorem fit_rel {f : Nat} {x : List AV} (h : Fit Tryd.prog f 24 x) : ∃ rs : List USet, x = [.rsl 2 (rs.map rowV)] ∧ (rs.length ≤ 9223372036854775807 ∧ ∀ y ∈ rs, y.W.length ≤ 9223372036854775807) ∧ ∀ y ∈ rs, okW y.W := by
  obtain ⟨f', parts, rfl, h2⟩ := fit_struct Tryd.underlying24 h
  obtain ⟨a, rfl, h3⟩ := F2.one h2
  obtain ⟨es, f2, rfl, h5, h6⟩ := fit_slice (m := 2) Tryd.underlying22 (by kernel_rfl) (by decide) h3
  obtain ⟨rs, rfl, hr⟩ := exists_mapP (f := rowV) (p := fun y => y.W.length ≤ 9223372036854775807 ∧ okW y.W) fun y hy => fit_set (h6 y hy)
  exact ⟨rs, rfl, ⟨by simpa [maxLen] using h5, fun y hy => (hr y hy).1⟩, fun y hy => (hr y hy).2⟩
theorem fit_ints {f : Nat} {x : List AV} (h : Fit Tryd.prog f 37 x) : ∃ l : List Int, x = [.rsl 1 (ints l)] ∧ l.length ≤ 9223372036854775807 := by
  obtain ⟨es, f2, rfl, h5, h6⟩ := fit_slice (m := 1) Tryd.underlying37 (by kernel_rfl) (by decide) h
  obtain ⟨l, rfl, _⟩ := exists_mapP (f := fun x : Int => [AV.int .i64 x]) (p := fun _ => True) fun y hy => by
    obtain ⟨n, e, _⟩ := fit_int Tryd.underlying3 (h6 y hy)
    exact ⟨n, e, trivial⟩
  exact ⟨l, rfl, by simpa [maxLen] using h5⟩
theorem fit_lists {f : Nat} {x : List AV} (h : Fit Tryd.prog f 38 x) : ∃ cs : List (List Int), x = [.rsl 1 (Go.Proofs.W.M.nbR cs)] ∧ cs.length ≤ 9223372036854775807 ∧ ∀ c ∈ cs, c.length ≤ 9223372036854775807 := by
  obtain ⟨es, f2, rfl, h5, h6⟩ := fit_slice (m := 1) Tryd.underlying38 (by kernel_rfl) (by decide) h
  obtain ⟨cs, rfl, hc⟩ := exists_mapP (f := fun c : List Int => [AV.rsl 1 (ints c)]) (p := fun c => c.length ≤ 9223372036854775807) fun y hy => fit_ints (h6 y hy)
  exact ⟨cs, rfl, by simpa [maxLen] using h5, hc⟩
theorem pgl {W : World} (h : laidMetH Tryd.prog [("math/bits.deBruijn64tab", .agg (tzTab.map fun i => .lit (.int .u8 i)))] W) : GL (immF W fun _ => False) W := fun g cs e => by
  cases g with
  | zero =>
    rw [globA_aux] at e
    obtain rfl := Option.some.inj e
    exact rptr_of_laid (L := tzTab) (by kernel_rfl : Tryd.prog.globalNamed "math/bits.deBruijn64tab" = some 0) (by kernel_rfl : (Tryd.prog.globals[0]?).map (·.type) = some 108) (e := 5) Tryd.underlying108 (by kernel_rfl) (by kernel_rfl) Tryd.underlying5 (by decide) (laidMet_of_H h)
  | succ g => cases e
theorem pmet (os : Os) (args : Array Value) : laidMetH Tryd.prog [("math/bits.deBruijn64tab", .agg (tzTab.map fun i => .lit (.int .u8 i)))] ((World.doorLaid Tryd.prog 400 os).forCall (fun _ _ => 0) ⟨#[], args, []⟩).memory :=
  laidMetH_of_parts3 (fuel := 8) (laidMet_of_run' 8 (by kernel_rfl) (by kernel_rfl)) (by kernel_rfl) (by kernel_rfl)
end Go.AM

