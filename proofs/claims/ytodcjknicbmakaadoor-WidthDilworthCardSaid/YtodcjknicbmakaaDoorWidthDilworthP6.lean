/- Lemmas and contracts, part 6: an abstract machine over the model, and the functions that the statement reaches. -/
import Derived.Test.YtodcjknicbmakaaDoorWidthDilworthP5
set_option linter.unusedVariables false
set_option linter.unusedSimpArgs false
open Nat renaming reduceAdd → zA, reduceMul → zM, reduceEqDiff → zE, reduceLT → zL, reduceLeDiff → zD, reduceSub → zS, reducePow → zP, reduceBEq → zB
open Int renaming reduceToNat → zI
open List renaming reduceReplicate → zR
namespace Go.Proofs.W
open Go.AM Go
set_option maxRecDepth 100000
set_option maxHeartbeats 2000000
theorem pairsT_nodup (t : List (List Bool)) (n : Nat) : (yas t n).Nodup := by
 unfold yas
 have h : ∀ i, (yav t n i).Nodup ∧ ∀ p ∈ yav t n i, p.1 < (i : Int) := by
  intro i
  induction i with
  | zero => exact ⟨by simp [yav], fun p hp => by simp [yav] at hp⟩
  | succ i ih =>
   rw [ycn]
   refine ⟨List.nodup_append.2 ⟨ih.1, ?_, ?_⟩, fun p hp => ?_⟩
   ·unfold yax
    refine List.pairwise_map.2 (List.Pairwise.imp (fun {a b} h e => ?_) (List.Pairwise.sublist List.filter_sublist (List.nodup_range (n := n))))
    simp only [Prod.mk.injEq] at e
    exact h (by omega)
   ·intro a ha b hb e
    subst e
    have h1 := ih.2 a ha
    unfold yax at hb
    obtain ⟨j, _, rfl⟩ := List.mem_map.1 hb
    simp at h1
   ·rcases List.mem_append.1 hp with hp | hp
    ·have := ih.2 p hp; omega
    ·unfold yax at hp
     obtain ⟨j, _, rfl⟩ := List.mem_map.1 hp
     simp only; omega
 exact (h n).1
theorem gdT {n : Nat} {t : List (List Bool)} (hn : n ≤ 512) (hl : (yas t n).length ≤ 2000) : M.Gd n n (yas t n) :=
 ⟨hn, hn, hl, fun e he => by obtain ⟨i, j, rfl, h1, h2, _⟩ := pairsT_mem.1 he; exact edgeIn_iff.2 (by simp only; omega), pairsT_nodup t n⟩
def nxtT (n : Nat) (t : List (List Bool)) : List Int := (plc n n (M.maxP n n (yas t n))).1
def begT (n : Nat) (t : List (List Bool)) : List Bool := begF n (M.maxP n n (yas t n))
def chainsT (n : Nat) (t : List (List Bool)) : List (List Int) := chAt (nxtT n t) (begT n t) n n
theorem maxP_mat {n m : Nat} {E : List (Int × Int)} (h : M.Gd n m E) : yoo E (M.maxP n m E) = true := yrz h.max.1 h.hE
theorem plT {n : Nat} {t : List (List Bool)} (h : M.Gd n n (yas t n)) : PlI n n (yas t n) (M.maxP n n (yas t n)) (plc n n (M.maxP n n (yas t n))) := plc_pl h.hE (maxP_mat h)
theorem nbV_app (l : List (List Int)) (row : List Int) : M.nbV l ++ [[.osl 1 (ints row)]] = M.nbV (l ++ [row]) := by simp [M.nbV]
theorem take_edge {n : Nat} {Q E : List (Int × Int)} (hQ : ∀ p ∈ Q, p ∈ E) (hE : ∀ e ∈ E, ycd n n e = true) {j : Nat} {p : Int × Int} (hp : Q[j]? = some p) : 0 ≤ p.1 ∧ p.1 < (n : Int) ∧ 0 ≤ p.2 ∧ p.2 < (n : Int) := edgeIn_iff.1 (hE p (hQ p (List.mem_of_getElem? hp)))
theorem yr2 (n m : Nat) (P : List (Int × Int)) : (plc n m P).1.length = n ∧ (plc n m P).2.length = m := by
 unfold plc
 have : ∀ (P : List (Int × Int)) (x : List Int × List Int), x.1.length = n ∧ x.2.length = m → (P.foldl ysr x).1.length = n ∧ (P.foldl ysr x).2.length = m := by
  intro P
  induction P with
  | nil => intro x h; exact h
  | cons p P ih => intro x h; rw [List.foldl_cons]; exact ih _ (by simpa [ysr] using h)
 exact this P _ (by simp)
theorem vwcF_nbV (s : yap) (d : Nat) (nb : List (List Int)) : (M.nbV nb).map (fun cs => cs.map (vwcF s d)) = M.nbR nb := by
 simp [M.nbV, M.nbR, yjj, ypi]
theorem yqb (n : Nat) (t : List (List Bool)) (hs : Sq n t) (hn : n ≤ 512) (hp : poB n t = true) (hl : (yas t n).length ≤ 2000) : Reads Tryd.prog 28 true [relB t] (.tup [.rsl 1 (M.nbR (chainsT n t)), .int .i64 0]) := by
 have he := yos n t hs hn hp
 rw [if_pos hl] at he
 have hpo := (ykr hs).1 hp
 have hg := gdT hn hl
 have hmx := M.max_good hg.valid
 have hpl := plT hg
 have hQl : (M.maxP n n (yas t n)).length ≤ n := yrs _ _
 have hmem := fun p => (pairsT_mem (t := t) (n := n) (p := p)).1
 have hr1 := M.repeat_u (-1) n (by omega)
 have hr2 := repeatb_u true n (by omega)
 have htl : (tabR t).length = n := by rw [ybw, hs.len]
 have hQe := hpl.hE
 have hEr := hg.hE
 have hNl := (yr2 n n (M.maxP n n (yas t n))).1
 have hMch := hpl.hM
 have hnbm := fun i r => (ycw (n := n) hg.hE i r).1
 unfold chainsT nxtT begT
 generalize hQ : M.maxP n n (yas t n) = Q at *
 have hi1 : ints [-1] = [[.int .i64 (-1)]] := rfl
 have hi2 : ya9 [true] = [[.bool true]] := rfl
 rw [hi1] at hr1
 rw [hi2] at hr2
 unfold relB at *
 refine Reads.bodyF (rs := [.tmp 2, .tmp 3]) Tryd.func28 rfl Tryd.ntmps28 rfl (by simp) ?_
 generalize hQr : retQ _ _ _ = Qr
 refine AW.seq fun K1 hK1 => ?_
 refine AW.regionK 0 (fun _ => none) [1] [1, 40, 43] ?_
 simp only [go_sem, reduceIte, reduceCtorEq, zA, zM, zE, zL, zD, zS, zP, zB, zI, zR, htl, yaa, yal]
 repeat with_reducible refine cj ?_ ?_
 all_goals try first | omega
 refine hK1 _ _ _ ?_; clear hK1
 refine AW.seq fun K2 hK2 => ?_
 refine AW.regionK 0 (fun ii => if ii = 1 then some (.reads false (.tup [.rsl 2 ((yas t n).map ya8), .int .i64 0])) else none) [1, 4, 5] [1, 40, 43] ?_
 simp only [go_sem, reduceIte, reduceCtorEq, zA, zM, zE, zL, zD, zS, zP, zB, zI, zR, htl, yaa, yal]
 repeat with_reducible refine cj ?_ ?_
 all_goals try first | (exact he) | omega | exact ent (by kernel_rfl)
 refine hK2 _ _ _ ?_; clear hK2
 refine AW.seq fun K3 hK3 => ?_
 refine AW.seq fun K4 hK4 => ?_
 refine AW.regionK 0 (fun _ => none) [1, 4, 5, 23] [1, 40, 43] ?_
 simp only [go_sem, reduceIte, reduceCtorEq, zA, zM, zE, zL, zD, zS, zP, zB, zI, zR, htl, yaa, yal]
 repeat with_reducible refine cj ?_ ?_
 all_goals try first | omega
 refine hK4 _ _ _ ?_; clear hK4
 refine AW.cond rfl (by simp only [go_sem, reduceIte, reduceCtorEq, zA, zM, zE, zL, zD, zS, zP, zB, zI, zR]) ?_ ?_
 ·intro hb
  try simp only [hB, decide_eq_true_eq, decide_eq_false_iff_not] at hb
  exfalso; simp at hb
 ·intro hb
  try simp only [hB, decide_eq_true_eq, decide_eq_false_iff_not] at hb
  refine AW.skip ?_
  refine hK3 _ _ _ ?_; clear hK3
  refine AW.seq fun K5 hK5 => ?_
  refine AW.regionK 0 (fun _ => none) [4, 6] [40, 43] ?_
  simp only [go_sem, reduceIte, reduceCtorEq, zA, zM, zE, zL, zD, zS, zP, zB, zI, zR, htl, yaa, yal]
  repeat with_reducible refine cj ?_ ?_
  all_goals try first | omega
  refine hK5 _ _ _ ?_; clear hK5
  refine AW.seq fun K6 hK6 => ?_
  refine AW.regionK 0 (fun ii => if ii = 3 then some (.reads false (.tup [.rsl 2 (Q.map ya8), .int .i64 0])) else none) [5, 6, 7] [40, 43] ?_
  simp only [go_sem, reduceIte, reduceCtorEq, zA, zM, zE, zL, zD, zS, zP, zB, zI, zR, htl, yaa, yal]
  repeat with_reducible refine cj ?_ ?_
  all_goals try first | (exact hmx) | omega | exact ent (by kernel_rfl)
  refine hK6 _ _ _ ?_; clear hK6
  refine AW.seq fun K7 hK7 => ?_
  refine AW.seq fun K8 hK8 => ?_
  refine AW.regionK 0 (fun _ => none) [5, 6, 7, 36] [40, 43] ?_
  simp only [go_sem, reduceIte, reduceCtorEq, zA, zM, zE, zL, zD, zS, zP, zB, zI, zR, htl, yaa, yal]
  repeat with_reducible refine cj ?_ ?_
  all_goals try first | omega
  refine hK8 _ _ _ ?_; clear hK8
  refine AW.cond rfl (by simp only [go_sem, reduceIte, reduceCtorEq, zA, zM, zE, zL, zD, zS, zP, zB, zI, zR]) ?_ ?_
  ·intro hb
   try simp only [hB, decide_eq_true_eq, decide_eq_false_iff_not] at hb
   exfalso; simp at hb
  ·intro hb
   try simp only [hB, decide_eq_true_eq, decide_eq_false_iff_not] at hb
   refine AW.skip ?_
   refine hK7 _ _ _ ?_; clear hK7
   refine AW.seq fun K9 hK9 => ?_
   refine AW.regionK 0 (fun ii => if ii = 2 then some (.upd [38] (fun k => [(1, some ⟨k, k, 1, ints (List.replicate n (-1))⟩)]) (fun k => .sl ⟨1, k, none⟩ 0 n none)) else none) [6, 7, 8] [40] ?_
   simp only [go_sem, reduceIte, reduceCtorEq, zA, zM, zE, zL, zD, zS, zP, zB, zI, zR, htl, yaa, yal]
   repeat with_reducible refine cj ?_ ?_
   all_goals try first | (exact hr1 _ _) | omega | exact ent (by kernel_rfl)
   refine hK9 _ _ _ ?_; clear hK9
   refine AW.seq fun K10 hK10 => ?_
   refine AW.regionK 0 (fun ii => if ii = 2 then some (.upd [41] (fun k => [(1, some ⟨k, k, 1, ya9 (List.replicate n true)⟩)]) (fun k => .sl ⟨1, k, none⟩ 0 n none)) else none) [7, 8, 9] [40, 43] ?_
   simp only [go_sem, reduceIte, reduceCtorEq, zA, zM, zE, zL, zD, zS, zP, zB, zI, zR, htl, yaa, yal]
   repeat with_reducible refine cj ?_ ?_
   all_goals try first | (exact hr2 _ _) | omega | exact ent (by kernel_rfl)
   refine hK10 _ _ _ ?_; clear hK10
   refine AW.seq fun K11 hK11 => ?_
   refine AW.seq fun K12 hK12 => ?_
   refine AW.regionK 0 (fun _ => none) [8, 9, 44, 45, 46] [40, 43] ?_
   simp only [go_sem, reduceIte, reduceCtorEq, zA, zM, zE, zL, zD, zS, zP, zB, zI, zR, htl, yaa, yal]
   repeat with_reducible refine cj ?_ ?_
   all_goals try first | omega
   refine hK12 _ _ _ ?_; clear hK12
   refine AW.block ?_
   refine AW.loopE (fun mm ee ss kk => ∃ (j g1 v1 g2 v2 : Nat), Q.length - j = mm ∧ ee = [(8, .sl ⟨40, g1, none⟩ 0 n none), (9, .sl ⟨43, g2, none⟩ 0 n none), (44, .rsl 2 (Q.map ya8)), (45, .int .i64 Q.length), (46, .int .i64 (j : Nat))] ∧ ss = [(40, some ⟨g1, v1, 1, ints (plc n n (Q.take j)).1⟩), (43, some ⟨g2, v2, 1, ya9 (begF n (Q.take j))⟩)] ∧ (j ≤ Q.length)) ?_ ?_
   ·refine ⟨_, 0, ?_, ?_, ?_, ?_, rfl, ?henv, ?hstore, ?hst⟩
    case henv =>
     repeat' (first | rfl | refine yab ?_ ?_ | refine yad ?_ ?_ ?_ ?_ | refine yag ?_ | refine yae ?_ | refine yah ?_ | refine yai ?_ | refine yan ?_ ?_ ?_ | refine yaj ?_ ?_ ?_ | refine yak ?_ | refine yaf ?_ ?_ | refine yac ?_ ?_)
     all_goals (first | (simp; done) | omega | (simp; omega))
    case hstore =>
     repeat' (first | rfl | refine yab ?_ ?_ | refine yad ?_ ?_ ?_ ?_ | refine yag ?_ | refine yae ?_ | refine yah ?_ | refine yai ?_ | refine yan ?_ ?_ ?_ | refine yaj ?_ ?_ ?_ | refine yak ?_ | refine yaf ?_ ?_ | refine yac ?_ ?_)
     all_goals (first | rfl | (simp only [List.take_zero, yp9]; done) | (rw [List.take_zero, yp9]))
    case hst =>
     first | trivial | omega | (simp; done) | (simp; omega)
   rintro mm ee ss kk ⟨j, g1, v1, g2, v2, rfl, rfl, rfl, hI⟩
   generalize hQl1 : ybb _ _ = Ql1
   refine AW.seq fun K13 hK13 => ?_
   refine AW.regionK 0 (fun _ => none) [8, 9, 44, 45, 46, 47] [40, 43] ?_
   simp only [go_sem, reduceIte, reduceCtorEq, zA, zM, zE, zL, zD, zS, zP, zB, zI, zR, htl, yaa, yal]
   repeat with_reducible refine cj ?_ ?_
   all_goals try first | omega
   refine hK13 _ _ _ ?_; clear hK13
   refine AW.seq fun K14 hK14 => ?_
   refine AW.cond rfl (by simp only [go_sem, reduceIte, reduceCtorEq, zA, zM, zE, zL, zD, zS, zP, zB, zI, zR]) ?_ ?_
   ·intro hb
    try simp only [hB, decide_eq_true_eq, decide_eq_false_iff_not] at hb
    obtain ⟨p, hpj⟩ := getI (l := Q) (j := j) (by omega)
    have hgp := getV (f := ya8) hpj
    have hr := take_edge hQe hEr hpj
    have hts : Q.take (j + 1) = Q.take j ++ [p] := by rw [List.take_add_one, hpj]; rfl
    have hps := yp6 n n hpj
    have hp1 : (plc n n (Q.take j)).1.set p.1.toNat p.2 = (plc n n (Q.take (j + 1))).1 := by rw [hps]
    have hbs := begF_snoc (n := n) (l := Q.take j) hr.2.2.1
    rw [← hts] at hbs
    have hnl := (yr2 n n (Q.take j)).1
    have hbl := yp7 n (Q.take j)
    have hu1 := ints_upd (plc n n (Q.take j)).1 p.1.toNat p.2
    have hu2 := bools_upd (begF n (Q.take j)) p.2.toNat false
    rw [hp1] at hu1
    rw [hbs] at hu2
    refine AW.skip ?_
    refine hK14 _ _ _ ?_; clear hK14
    refine AW.seq fun K15 hK15 => ?_
    refine AW.block ?_
    refine AW.seq fun K16 hK16 => ?_
    refine AW.regionK 0 (fun _ => none) [8, 9, 11, 44, 45, 46] [11, 40, 43] ?_
    simp only [go_sem, reduceIte, reduceCtorEq, zA, zM, zE, zL, zD, zS, zP, zB, zI, zR, htl, yaa, yal, hgp, ya8]
    repeat with_reducible refine cj ?_ ?_
    all_goals try first | omega
    refine hK16 _ _ _ ?_; clear hK16
    refine AW.seq fun K17 hK17 => ?_
    refine AW.regionK 0 (fun _ => none) [8, 9, 11, 44, 45, 46] [11, 40, 43] ?_
    simp only [go_sem, reduceIte, reduceCtorEq, zA, zM, zE, zL, zD, zS, zP, zB, zI, zR, htl, yaa, yal, hnl, hu1]
    repeat with_reducible refine cj ?_ ?_
    all_goals try first | omega
    refine hK17 _ _ _ ?_; clear hK17
    refine AW.regionK 0 (fun _ => none) [8, 9, 44, 45, 46] [40, 43] ?_
    simp only [go_sem, reduceIte, reduceCtorEq, zA, zM, zE, zL, zD, zS, zP, zB, zI, zR, htl, yaa, yal, hbl, hu2]
    repeat with_reducible refine cj ?_ ?_
    all_goals try first | omega
    refine hK15 _ _ _ ?_; clear hK15
    refine AW.regionK 0 (fun _ => none) [8, 9, 44, 45, 46] [40, 43] ?_
    simp only [go_sem, reduceIte, reduceCtorEq, zA, zM, zE, zL, zD, zS, zP, zB, zI, zR, htl, yaa, yal]
    repeat with_reducible refine cj ?_ ?_
    all_goals try first | omega
    rw [← hQl1]
    change Exists _
    refine ⟨_, ?hm, j + 1, ?_, ?_, ?_, ?_, rfl, ?henv, ?hstore, ?hst⟩
    case henv =>
     repeat' (first | rfl | refine yab ?_ ?_ | refine yad ?_ ?_ ?_ ?_ | refine yag ?_ | refine yae ?_ | refine yah ?_ | refine yai ?_ | refine yan ?_ ?_ ?_ | refine yaj ?_ ?_ ?_ | refine yak ?_ | refine yaf ?_ ?_ | refine yac ?_ ?_)
     all_goals (first | (simp; done) | omega | (simp; omega))
    case hstore =>
     repeat' (first | rfl | refine yab ?_ ?_ | refine yad ?_ ?_ ?_ ?_ | refine yag ?_ | refine yae ?_ | refine yah ?_ | refine yai ?_ | refine yan ?_ ?_ ?_ | refine yaj ?_ ?_ ?_ | refine yak ?_ | refine yaf ?_ ?_ | refine yac ?_ ?_)
     all_goals (first | (simp; done) | omega | (simp; omega))
    case hst =>
     first | trivial | omega | (simp; done) | (simp; omega)
    case hm => omega
   ·intro hb
    try simp only [hB, decide_eq_true_eq, decide_eq_false_iff_not] at hb
    have hj2 : j = Q.length := by omega
    subst hj2
    rw [List.take_length]
    refine AW.exit ?_
    rw [← hQl1]
    refine hK11 _ _ _ ?_; clear hK11
    refine AW.seq fun K18 hK18 => ?_
    refine AW.regionK 0 (fun _ => none) [8, 9, 12] [40, 43] ?_
    simp only [go_sem, reduceIte, reduceCtorEq, zA, zM, zE, zL, zD, zS, zP, zB, zI, zR, htl, yaa, yal]
    repeat with_reducible refine cj ?_ ?_
    all_goals try first | omega
    refine hK18 _ _ _ ?_; clear hK18
    refine AW.seq fun K19 hK19 => ?_
    refine AW.seq fun K20 hK20 => ?_
    refine AW.regionK 0 (fun _ => none) [8, 12, 61, 62, 63] [40, 43] ?_
    simp only [go_sem, reduceIte, reduceCtorEq, zA, zM, zE, zL, zD, zS, zP, zB, zI, zR, htl, yaa, yal]
    repeat with_reducible refine cj ?_ ?_
    all_goals try first | omega
    refine hK20 _ _ _ ?_; clear hK20
    refine AW.block ?_
    refine AW.nilOwn 12 200 1 (by simp only [go_sem, reduceIte, zE]) ?_
    refine AW.keep [8, 12, 61, 62, 63] [40, 43, 200] ?_
    simp only [go_sem, reduceIte, zE]
    have hbl := yp7 n Q
    generalize hN : (plc n n Q).1 = N at *
    generalize begF n Q = B at *
    refine AW.loopE (fun mm ee ss kk => ∃ (j g1 v1 g2 v2 g v : Nat), n - j = mm ∧ ee = [(8, .sl ⟨40, g1, none⟩ 0 n none), (12, .sl ⟨200, g, none⟩ 0 (chAt N B n j).length none), (61, .sl ⟨43, g2, none⟩ 0 n none), (62, .int .i64 n), (63, .int .i64 (j : Nat))] ∧ ss = [(40, some ⟨g1, v1, 1, ints N⟩), (43, some ⟨g2, v2, 1, ya9 B⟩), (200, some ⟨g, v, 1, M.nbV (chAt N B n j)⟩)] ∧ (j ≤ n)) ?_ ?_
    ·refine ⟨_, 0, ?_, ?_, ?_, ?_, ?_, ?_, rfl, ?henv, ?hstore, ?hst⟩
     case henv =>
      repeat' (first | rfl | refine yab ?_ ?_ | refine yad ?_ ?_ ?_ ?_ | refine yag ?_ | refine yae ?_ | refine yah ?_ | refine yai ?_ | refine yan ?_ ?_ ?_ | refine yaj ?_ ?_ ?_ | refine yak ?_ | refine yaf ?_ ?_ | refine yac ?_ ?_)
      all_goals (first | (simp; done) | omega | (simp; omega))
     case hstore =>
      repeat' (first | rfl | refine yab ?_ ?_ | refine yad ?_ ?_ ?_ ?_ | refine yag ?_ | refine yae ?_ | refine yah ?_ | refine yai ?_ | refine yan ?_ ?_ ?_ | refine yaj ?_ ?_ ?_ | refine yak ?_ | refine yaf ?_ ?_ | refine yac ?_ ?_)
      all_goals (first | (simp; done) | omega | (simp; omega))
     case hst =>
      first | trivial | omega | (simp; done) | (simp; omega)
    rintro mm ee ss kk ⟨j, g1, v1, g2, v2, g, v, rfl, rfl, rfl, hI⟩
    generalize hQl2 : ybb _ _ = Ql2
    refine AW.seq fun K21 hK21 => ?_
    refine AW.regionK 0 (fun _ => none) [8, 12, 61, 62, 63, 64] [40, 43, 200] ?_
    simp only [go_sem, reduceIte, reduceCtorEq, zA, zM, zE, zL, zD, zS, zP, zB, zI, zR, htl, yaa, yal]
    repeat with_reducible refine cj ?_ ?_
    all_goals try first | omega
    refine hK21 _ _ _ ?_; clear hK21
    refine AW.seq fun K22 hK22 => ?_
    refine AW.cond rfl (by simp only [go_sem, reduceIte, reduceCtorEq, zA, zM, zE, zL, zD, zS, zP, zB, zI, zR]) ?_ ?_
    ·intro hb
     try simp only [hB, decide_eq_true_eq, decide_eq_false_iff_not] at hb
     have hgb := ybr (l := B) (i := j) (by omega)
     have hsu := chAt_succ N B n j
     have hcl := yr0 N B n j
     have htk : (M.nbV (chAt N B n j)).take (chAt N B n j).length = M.nbV (chAt N B n j) := List.take_of_length_le (by rw [M.nbV_len]; exact Nat.le_refl _)
     have hap := nbV_app (chAt N B n j) (chR N (n + 1) j)
     have hvl := M.nbV_len (chAt N B n j)
     generalize hX : chAt N B n j = X at *
     have hgl := fun x => yrk (M.nbV X) x hvl
     have hsl := fun x y => yrl (M.nbV X) x y hvl
     have hll := fun x => yrm (M.nbV X) x hvl
     refine AW.skip ?_
     refine hK22 _ _ _ ?_; clear hK22
     refine AW.seq fun K23 hK23 => ?_
     refine AW.block ?_
     refine AW.seq fun K24 hK24 => ?_
     refine AW.regionK 0 (fun _ => none) [8, 12, 13, 14, 61, 62, 63] [40, 43, 200] ?_
     simp only [go_sem, reduceIte, reduceCtorEq, zA, zM, zE, zL, zD, zS, zP, zB, zI, zR, htl, yaa, yal, hbl, hgb]
     repeat with_reducible refine cj ?_ ?_
     all_goals try first | omega
     refine hK24 _ _ _ ?_; clear hK24
     refine AW.seq fun K25 hK25 => ?_
     refine AW.seq fun K26 hK26 => ?_
     refine AW.regionK 0 (fun _ => none) [8, 12, 13, 61, 62, 63, 69] [40, 43, 200] ?_
     simp only [go_sem, reduceIte, reduceCtorEq, zA, zM, zE, zL, zD, zS, zP, zB, zI, zR, htl, yaa, yal]
     repeat with_reducible refine cj ?_ ?_
     all_goals try first | omega
     refine hK26 _ _ _ ?_; clear hK26
     refine AW.cond rfl (by simp only [go_sem, reduceIte, reduceCtorEq, zA, zM, zE, zL, zD, zS, zP, zB, zI, zR]) ?_ ?_
     ·intro hb
      try simp only [hB, decide_eq_true_eq, decide_eq_false_iff_not] at hb
      rw [if_neg (by rw [hb]; simp)] at hsu
      refine AW.exit ?_
      refine hK23 _ _ _ ?_; clear hK23
      refine AW.regionK 0 (fun _ => none) [8, 12, 61, 62, 63] [40, 43, 200] ?_
      simp only [go_sem, reduceIte, reduceCtorEq, zA, zM, zE, zL, zD, zS, zP, zB, zI, zR, htl, yaa, yal]
      repeat with_reducible refine cj ?_ ?_
      all_goals try first | omega
      rw [← hQl2]
      change Exists _
      refine ⟨_, ?hm, j + 1, ?_, ?_, ?_, ?_, ?_, ?_, rfl, ?henv, ?hstore, ?hst⟩
      case henv =>
       repeat' (first | rfl | refine yab ?_ ?_ | refine yad ?_ ?_ ?_ ?_ | refine yag ?_ | refine yae ?_ | refine yah ?_ | refine yai ?_ | refine yan ?_ ?_ ?_ | refine yaj ?_ ?_ ?_ | refine yak ?_ | refine yaf ?_ ?_ | refine yac ?_ ?_)
       all_goals (first | (rw [hsu]; done) | (rw [hsu]; simp; done) | omega | (simp; done))
      case hstore =>
       repeat' (first | rfl | refine yab ?_ ?_ | refine yad ?_ ?_ ?_ ?_ | refine yag ?_ | refine yae ?_ | refine yah ?_ | refine yai ?_ | refine yan ?_ ?_ ?_ | refine yaj ?_ ?_ ?_ | refine yak ?_ | refine yaf ?_ ?_ | refine yac ?_ ?_)
       all_goals (rw [hsu])
      case hst =>
       first | trivial | omega | (simp; done) | (simp; omega)
      case hm => omega
     ·intro hb
      try simp only [hB, decide_eq_true_eq, decide_eq_false_iff_not] at hb
      rw [if_pos hb] at hsu
      have hup := yqa n t j
      obtain ⟨C, hC⟩ : ∃ C, chR N (n + 1) (j : Int) = C := ⟨_, rfl⟩
      rw [hC] at hsu hap
      refine AW.skip ?_
      refine hK25 _ _ _ ?_; clear hK25
      refine AW.seq fun K27 hK27 => ?_
      refine AW.regionK 0 (fun _ => none) [8, 12, 13, 15, 61, 62, 63] [40, 43, 200] ?_
      simp only [go_sem, reduceIte, reduceCtorEq, zA, zM, zE, zL, zD, zS, zP, zB, zI, zR, htl, yaa, yal]
      repeat with_reducible refine cj ?_ ?_
      all_goals try first | omega
      refine hK27 _ _ _ ?_; clear hK27
      refine AW.seq fun K28 hK28 => ?_
      refine AW.seq fun K29 hK29 => ?_
      refine AW.regionK 0 (fun _ => none) [8, 12, 15, 16, 61, 62, 63] [40, 43, 200] ?_
      simp only [go_sem, reduceIte, reduceCtorEq, zA, zM, zE, zL, zD, zS, zP, zB, zI, zR, htl, yaa, yal]
      repeat with_reducible refine cj ?_ ?_
      all_goals try first | omega
      refine hK29 _ _ _ ?_; clear hK29
      refine AW.block ?_
      refine AW.nilOwn 15 201 1 (by simp only [go_sem, reduceIte, zE]) ?_
      refine AW.keep [8, 12, 15, 16, 61, 62, 63] [40, 43, 200, 201] ?_
      simp only [go_sem, reduceIte, zE]
      refine AW.loopE (fun mm ee ss kk => ∃ (fu g1 v1 g2 v2 g v g3 v3 : Nat) (a : Int) (acc : List Int), fu + 1 = mm ∧ ee = [(8, .sl ⟨40, g1, none⟩ 0 n none), (12, .sl ⟨200, g, none⟩ 0 X.length none), (15, .sl ⟨201, g3, none⟩ 0 acc.length none), (16, .int .i64 a), (61, .sl ⟨43, g2, none⟩ 0 n none), (62, .int .i64 n), (63, .int .i64 (j : Nat))] ∧ ss = [(40, some ⟨g1, v1, 1, ints N⟩), (43, some ⟨g2, v2, 1, ya9 B⟩), (200, some ⟨g, v, 1, M.nbV X⟩), (201, some ⟨g3, v3, 1, ints acc⟩)] ∧ (acc ++ chR N fu a = C ∧ acc.length + fu ≤ n + 1 ∧ (0 ≤ a → a < n ∧ upc n t a.toNat < fu))) ?_ ?_
      ·refine ⟨_, (n + 1), ?_, ?_, ?_, ?_, ?_, ?_, ?_, ?_, (j : Int), [], rfl, ?henv, ?hstore, ?hst⟩
       case henv =>
        repeat' (first | rfl | refine yab ?_ ?_ | refine yad ?_ ?_ ?_ ?_ | refine yag ?_ | refine yae ?_ | refine yah ?_ | refine yai ?_ | refine yan ?_ ?_ ?_ | refine yaj ?_ ?_ ?_ | refine yak ?_ | refine yaf ?_ ?_ | refine yac ?_ ?_)
        all_goals (first | (simp; done) | omega | (simp; omega))
       case hstore =>
        repeat' (first | rfl | refine yab ?_ ?_ | refine yad ?_ ?_ ?_ ?_ | refine yag ?_ | refine yae ?_ | refine yah ?_ | refine yai ?_ | refine yan ?_ ?_ ?_ | refine yaj ?_ ?_ ?_ | refine yak ?_ | refine yaf ?_ ?_ | refine yac ?_ ?_)
        all_goals (first | (simp; done) | omega | (simp; omega))
       case hst =>
        exact ⟨by simpa using hC, by simp, fun _ => ⟨by omega, by rw [Int.toNat_natCast]; omega⟩⟩
      rintro mm ee ss kk ⟨fu, g1, v1, g2, v2, g, v, g3, v3, a, acc, rfl, rfl, rfl, hI⟩
      generalize hQl3 : ybb _ _ = Ql3
      obtain ⟨hcc, hal, hau⟩ := hI
      refine AW.seq fun K30 hK30 => ?_
      refine AW.seq fun K31 hK31 => ?_
      refine AW.regionK 0 (fun _ => none) [8, 12, 15, 16, 61, 62, 63, 72] [40, 43, 200, 201] ?_
      simp only [go_sem, reduceIte, reduceCtorEq, zA, zM, zE, zL, zD, zS, zP, zB, zI, zR, htl, yaa, yal]
      repeat with_reducible refine cj ?_ ?_
      all_goals try first | omega
      refine hK31 _ _ _ ?_; clear hK31
      refine AW.cond rfl (by simp only [go_sem, reduceIte, reduceCtorEq, zA, zM, zE, zL, zD, zS, zP, zB, zI, zR]) ?_ ?_
      ·intro hb
       try simp only [hB, decide_eq_true_eq, decide_eq_false_iff_not] at hb
       obtain ⟨han, hauc⟩ := hau hb
       obtain ⟨fu, rfl⟩ : ∃ f, fu = f + 1 := ⟨fu - 1, by omega⟩
       unfold chR at hcc
       rw [if_pos hb] at hcc
       have hgn := ybo (l := N) (i := a.toNat) (by omega)
       have hak : (ints acc).take acc.length = ints acc := List.take_of_length_le (by rw [yaa]; exact Nat.le_refl _)
       have has : ints acc ++ [[.int .i64 a]] = ints (acc ++ [a]) := by simp [ints]
       have hnx : 0 ≤ N.getD a.toNat 0 → N.getD a.toNat 0 < n ∧ upc n t (N.getD a.toNat 0).toNat < fu := fun h0 => by
        rw [yh0 (by omega)] at h0 ⊢
        have h1 := hMch.hE a.toNat h0
        obtain ⟨i, k, e, hi, hk, hik⟩ := hmem _ (hnbm _ _ h1)
        simp only [Prod.mk.injEq] at e
        have e1 : a.toNat = i := by omega
        have e2 : (gi N a.toNat).toNat = k := by omega
        have h2 := yr1 hpo hi hk hik
        rw [e2]
        rw [e1] at hauc
        exact ⟨by omega, by omega⟩
       refine AW.skip ?_
       refine hK30 _ _ _ ?_; clear hK30
       refine AW.seq fun K32 hK32 => ?_
       refine AW.block ?_
       refine AW.regionK 0 (fun _ => none) [8, 12, 15, 16, 61, 62, 63] [40, 43, 200, 201] ?_
       simp only [go_sem, reduceIte, reduceCtorEq, zA, zM, zE, zL, zD, zS, zP, zB, zI, zR, htl, yaa, yal, hak, has]
       repeat with_reducible refine cj ?_ ?_
       all_goals try first | omega | (simp [scP, ybk]; done) | exact ybe _ | exact ybh _ | exact ybf _
       refine hK32 _ _ _ ?_; clear hK32
       refine AW.regionK 0 (fun _ => none) [8, 12, 15, 16, 61, 62, 63] [40, 43, 200, 201] ?_
       simp only [go_sem, reduceIte, reduceCtorEq, zA, zM, zE, zL, zD, zS, zP, zB, zI, zR, htl, yaa, yal, hNl, hgn]
       repeat with_reducible refine cj ?_ ?_
       all_goals try first | omega
       rw [← hQl3]
       change Exists _
       refine ⟨_, ?hm, fu, ?_, ?_, ?_, ?_, ?_, ?_, ?_, ?_, ?_, acc ++ [a], rfl, ?henv, ?hstore, ?hst⟩
       case henv =>
        repeat' (first | rfl | refine yab ?_ ?_ | refine yad ?_ ?_ ?_ ?_ | refine yag ?_ | refine yae ?_ | refine yah ?_ | refine yai ?_ | refine yan ?_ ?_ ?_ | refine yaj ?_ ?_ ?_ | refine yak ?_ | refine yaf ?_ ?_ | refine yac ?_ ?_)
        all_goals (first | (simp; done) | omega | (simp; omega))
       case hstore =>
        repeat' (first | rfl | refine yab ?_ ?_ | refine yad ?_ ?_ ?_ ?_ | refine yag ?_ | refine yae ?_ | refine yah ?_ | refine yai ?_ | refine yan ?_ ?_ ?_ | refine yaj ?_ ?_ ?_ | refine yak ?_ | refine yaf ?_ ?_ | refine yac ?_ ?_)
        all_goals (first | (simp; done) | omega | (simp; omega))
       case hst =>
        exact ⟨by rw [List.append_assoc]; exact hcc, by rw [List.length_append]; simp; omega, hnx⟩
       case hm => omega
      ·intro hb
       try simp only [hB, decide_eq_true_eq, decide_eq_false_iff_not] at hb
       have hC2 : acc = C := by
        rw [← hcc]
        cases fu with
        | zero => simp [chR]
        | succ f => unfold chR; rw [if_neg (by omega)]; simp
       have hal2 : acc.length ≤ 100000 := by omega
       clear hcc
       subst hC2
       refine AW.exit ?_
       rw [← hQl3]
       refine hK28 _ _ _ ?_; clear hK28
       refine AW.regionK 0 (fun _ => none) [8, 12, 61, 62, 63] [40, 43, 200, 201] ?_
       simp only [go_sem, reduceIte, reduceCtorEq, zA, zM, zE, zL, zD, zS, zP, zB, zI, zR, htl, yaa, yal, htk, hvl]
       repeat with_reducible refine cj ?_ ?_
       all_goals try first | omega | (simp [scP, ybk]; done) | exact ybe _ | exact ybh _ | exact ybf _
       refine hK23 _ _ _ ?_; clear hK23
       refine AW.adoptK 200 X.length 0 201 ?_
       simp only [go_sem, reduceIte, zE, hgl, hsl, hll]
       repeat refine cj ?_ ?_
       any_goals first | exact ylh _ | decide | (rw [yaa]; done) | omega
       refine AW.keep [8, 12, 61, 62, 63] [40, 43, 200] ?_
       simp only [go_sem, reduceIte, zE, hap]
       refine AW.regionK 0 (fun _ => none) [8, 12, 61, 62, 63] [40, 43, 200] ?_
       simp only [go_sem, reduceIte, reduceCtorEq, zA, zM, zE, zL, zD, zS, zP, zB, zI, zR, htl, yaa, yal]
       repeat with_reducible refine cj ?_ ?_
       all_goals try first | omega
       rw [← hQl2]
       change Exists _
       refine ⟨_, ?hm, j + 1, ?_, ?_, ?_, ?_, ?_, ?_, rfl, ?henv, ?hstore, ?hst⟩
       case henv =>
        repeat' (first | rfl | refine yab ?_ ?_ | refine yad ?_ ?_ ?_ ?_ | refine yag ?_ | refine yae ?_ | refine yah ?_ | refine yai ?_ | refine yan ?_ ?_ ?_ | refine yaj ?_ ?_ ?_ | refine yak ?_ | refine yaf ?_ ?_ | refine yac ?_ ?_)
        all_goals (first | (rw [hsu]; done) | (rw [hsu]; simp; done) | omega | (simp; done))
       case hstore =>
        repeat' (first | rfl | refine yab ?_ ?_ | refine yad ?_ ?_ ?_ ?_ | refine yag ?_ | refine yae ?_ | refine yah ?_ | refine yai ?_ | refine yan ?_ ?_ ?_ | refine yaj ?_ ?_ ?_ | refine yak ?_ | refine yaf ?_ ?_ | refine yac ?_ ?_)
        all_goals (rw [hsu])
       case hst =>
        first | trivial | omega | (simp; done) | (simp; omega)
       case hm => omega
    ·intro hb
     try simp only [hB, decide_eq_true_eq, decide_eq_false_iff_not] at hb
     have hj2 : j = n := by omega
     subst hj2
     have htk : (M.nbV (chAt N B j j)).take (chAt N B j j).length = M.nbV (chAt N B j j) := List.take_of_length_le (by rw [M.nbV_len]; exact Nat.le_refl _)
     refine AW.exit ?_
     rw [← hQl2]
     refine hK19 _ _ _ ?_; clear hK19
     refine AW.seq fun K33 hK33 => ?_
     refine AW.regionK 0 (fun _ => none) [2, 3] [200] ?_
     simp only [go_sem, reduceIte, reduceCtorEq, zA, zM, zE, zL, zD, zS, zP, zB, zI, zR, htl, yaa, yal]
     repeat with_reducible refine cj ?_ ?_
     all_goals try first | omega
     refine hK33 _ _ _ ?_; clear hK33
     refine AW.ret ?_
     rw [← hQr]
     simp only [go_sem, reduceIte, reduceCtorEq, zA, zM, zE, zL, zD, zS, zP, zB, zI, zR, htl, yaa, yal]
     exact Wk.of_eq (by simp only [htk, vwcF_nbV])
end Go.Proofs.W

namespace Go.Proofs.W
open Go.AM Go
set_option maxRecDepth 100000
set_option maxHeartbeats 2000000
theorem width_g (n : Nat) (t : List (List Bool)) (hs : Sq n t) (hn : n ≤ 512) (hp : poB n t = true) (hl : (yas t n).length ≤ 2000) : Reads Tryd.prog 12 false [relB t] (.tup [.int .i64 ((chainsT n t).length : Nat), .int .i64 0]) := by
 have he := (yqb n t hs hn hp hl).old
 have hnl := M.nbR_len (chainsT n t)
 unfold relB at *
 generalize chainsT n t = C at *
 refine Reads.body (rs := [.tmp 2, .tmp 3]) Tryd.func12 rfl Tryd.ntmps12 rfl (by simp) ?_
 generalize hQr : retQ _ _ _ = Qr
 refine AW.seq fun K1 hK1 => ?_
 refine AW.regionK 0 (fun _ => none) [1] [1] ?_
 simp only [go_sem, reduceIte, reduceCtorEq, zA, zM, zE, zL, zD, zS, zP, zB, zI, zR, hnl]
 repeat with_reducible refine cj ?_ ?_
 all_goals try first | omega
 refine hK1 _ _ _ ?_; clear hK1
 refine AW.seq fun K2 hK2 => ?_
 refine AW.regionK 0 (fun ii => if ii = 1 then some (.reads false (.tup [.rsl 1 (M.nbR C), .int .i64 0])) else none) [4, 5] [] ?_
 simp only [go_sem, reduceIte, reduceCtorEq, zA, zM, zE, zL, zD, zS, zP, zB, zI, zR, hnl]
 repeat with_reducible refine cj ?_ ?_
 all_goals try first | (exact he) | omega | exact ent (by kernel_rfl)
 refine hK2 _ _ _ ?_; clear hK2
 refine AW.seq fun K3 hK3 => ?_
 refine AW.regionK 0 (fun _ => none) [2, 3] [] ?_
 simp only [go_sem, reduceIte, reduceCtorEq, zA, zM, zE, zL, zD, zS, zP, zB, zI, zR, hnl]
 repeat with_reducible refine cj ?_ ?_
 all_goals try first | omega
 refine hK3 _ _ _ ?_; clear hK3
 refine AW.ret ?_
 rw [← hQr]
 simp only [go_sem, reduceIte, reduceCtorEq, zA, zM, zE, zL, zD, zS, zP, zB, zI, zR, hnl]
 exact Wk.refl _
/-- The greatest of the first j + 1 numbers. -/
def mxU (l : List Int) : Nat → Int
 | 0 => l.getD 0 0
 | j + 1 => max (mxU l j) (l.getD (j + 1) 0)
theorem max_r (l : List Int) (hl : l.length ≤ 100000) (h0 : 1 ≤ l.length) : Reads Tryd.prog 38 false [.rsl 1 (ints l)] (.int .i64 (mxU l (l.length - 1))) := by
 have hg0 := ybo (l := l) (i := 0) (by omega)
 refine Reads.body (rs := [.tmp 2]) Tryd.func38 rfl Tryd.ntmps38 rfl (by simp) ?_
 generalize hQr : retQ _ _ _ = Qr
 refine AW.seq fun K1 hK1 => ?_
 refine AW.regionK 0 (fun _ => none) [0] [] ?_
 simp only [go_sem, reduceIte, reduceCtorEq, zA, zM, zE, zL, zD, zS, zP, zB, zI, zR, yaa]
 repeat with_reducible refine cj ?_ ?_
 all_goals try first | omega
 refine hK1 _ _ _ ?_; clear hK1
 refine AW.seq fun K2 hK2 => ?_
 refine AW.seq fun K3 hK3 => ?_
 refine AW.regionK 0 (fun _ => none) [0, 7] [] ?_
 simp only [go_sem, reduceIte, reduceCtorEq, zA, zM, zE, zL, zD, zS, zP, zB, zI, zR, yaa]
 repeat with_reducible refine cj ?_ ?_
 all_goals try first | omega
 refine hK3 _ _ _ ?_; clear hK3
 refine AW.cond rfl (by simp only [go_sem, reduceIte, reduceCtorEq, zA, zM, zE, zL, zD, zS, zP, zB, zI, zR]) ?_ ?_
 ·intro hb
  try simp only [hB, decide_eq_true_eq, decide_eq_false_iff_not] at hb
  exfalso; omega
 ·intro hb
  try simp only [hB, decide_eq_true_eq, decide_eq_false_iff_not] at hb
  refine AW.skip ?_
  refine hK2 _ _ _ ?_; clear hK2
  refine AW.seq fun K4 hK4 => ?_
  refine AW.regionK 0 (fun _ => none) [0, 3] [] ?_
  simp only [go_sem, reduceIte, reduceCtorEq, zA, zM, zE, zL, zD, zS, zP, zB, zI, zR, yaa, hg0]
  repeat with_reducible refine cj ?_ ?_
  all_goals try first | omega
  refine hK4 _ _ _ ?_; clear hK4
  refine AW.seq fun K5 hK5 => ?_
  refine AW.seq fun K6 hK6 => ?_
  refine AW.regionK 0 (fun _ => none) [0, 3, 4] [] ?_
  simp only [go_sem, reduceIte, reduceCtorEq, zA, zM, zE, zL, zD, zS, zP, zB, zI, zR, yaa]
  repeat with_reducible refine cj ?_ ?_
  all_goals try first | omega
  refine hK6 _ _ _ ?_; clear hK6
  refine AW.block ?_
  refine AW.loopE (fun mm ee ss kk => ∃ (j : Nat), l.length - j = mm ∧ ee = [(0, .rsl 1 (ints l)), (3, .int .i64 (mxU l j)), (4, .int .i64 ((j + 1 : Nat) : Int))] ∧ ss = [] ∧ (j + 1 ≤ l.length)) ?_ ?_
  ·refine ⟨_, 0, rfl, ?henv, ?hstore, ?hst⟩
   case henv =>
    repeat' (first | rfl | refine yab ?_ ?_ | refine yad ?_ ?_ ?_ ?_ | refine yag ?_ | refine yae ?_ | refine yah ?_ | refine yai ?_ | refine yan ?_ ?_ ?_ | refine yaj ?_ ?_ ?_ | refine yak ?_ | refine yaf ?_ ?_ | refine yac ?_ ?_)
    all_goals (first | (simp; done) | omega | (simp; omega))
   case hstore =>
    repeat' (first | rfl | refine yab ?_ ?_ | refine yad ?_ ?_ ?_ ?_ | refine yag ?_ | refine yae ?_ | refine yah ?_ | refine yai ?_ | refine yan ?_ ?_ ?_ | refine yaj ?_ ?_ ?_ | refine yak ?_ | refine yaf ?_ ?_ | refine yac ?_ ?_)
    all_goals (first | (simp; done) | omega | (simp; omega))
   case hst =>
    first | trivial | omega | (simp; done) | (simp; omega)
  rintro mm ee ss kk ⟨j, rfl, rfl, rfl, hI⟩
  generalize hQl1 : ybb _ _ = Ql1
  refine AW.seq fun K7 hK7 => ?_
  refine AW.seq fun K8 hK8 => ?_
  refine AW.regionK 0 (fun _ => none) [0, 3, 4, 15] [] ?_
  simp only [go_sem, reduceIte, reduceCtorEq, zA, zM, zE, zL, zD, zS, zP, zB, zI, zR, yaa]
  repeat with_reducible refine cj ?_ ?_
  all_goals try first | omega
  refine hK8 _ _ _ ?_; clear hK8
  refine AW.cond rfl (by simp only [go_sem, reduceIte, reduceCtorEq, zA, zM, zE, zL, zD, zS, zP, zB, zI, zR]) ?_ ?_
  ·intro hb
   try simp only [hB, decide_eq_true_eq, decide_eq_false_iff_not] at hb
   have hgj := ybo (l := l) (i := j + 1) (by omega)
   have e1 : ((j + 1 : Nat) : Int).toNat = j + 1 := by omega
   have hsu : mxU l (j + 1) = max (mxU l j) (l.getD (j + 1) 0) := rfl
   refine AW.skip ?_
   refine hK7 _ _ _ ?_; clear hK7
   refine AW.seq fun K9 hK9 => ?_
   refine AW.block ?_
   refine AW.regionK 0 (fun _ => none) [0, 3, 4] [] ?_
   simp only [go_sem, reduceIte, reduceCtorEq, zA, zM, zE, zL, zD, zS, zP, zB, zI, zR, yaa, hgj, e1]
   repeat with_reducible refine cj ?_ ?_
   all_goals try first | omega
   refine hK9 _ _ _ ?_; clear hK9
   refine AW.regionK 0 (fun _ => none) [0, 3, 4] [] ?_
   simp only [go_sem, reduceIte, reduceCtorEq, zA, zM, zE, zL, zD, zS, zP, zB, zI, zR, yaa]
   repeat with_reducible refine cj ?_ ?_
   all_goals try first | omega
   rw [← hQl1]
   change Exists _
   refine ⟨_, ?hm, j + 1, rfl, ?henv, ?hstore, ?hst⟩
   case henv =>
    repeat' (first | rfl | refine yab ?_ ?_ | refine yad ?_ ?_ ?_ ?_ | refine yag ?_ | refine yae ?_ | refine yah ?_ | refine yai ?_ | refine yan ?_ ?_ ?_ | refine yaj ?_ ?_ ?_ | refine yak ?_ | refine yaf ?_ ?_ | refine yac ?_ ?_)
    all_goals (first | (rw [hsu]; done) | (simp; done) | omega)
   case hstore =>
    repeat' (first | rfl | refine yab ?_ ?_ | refine yad ?_ ?_ ?_ ?_ | refine yag ?_ | refine yae ?_ | refine yah ?_ | refine yai ?_ | refine yan ?_ ?_ ?_ | refine yaj ?_ ?_ ?_ | refine yak ?_ | refine yaf ?_ ?_ | refine yac ?_ ?_)
    all_goals (first | (simp; done) | omega | (simp; omega))
   case hst =>
    first | trivial | omega | (simp; done) | (simp; omega)
   case hm => omega
  ·intro hb
   try simp only [hB, decide_eq_true_eq, decide_eq_false_iff_not] at hb
   refine AW.keep [3] [] ?_
   try simp only [go_sem, reduceIte, reduceCtorEq, zA, zM, zE, zL, zD, zS, zP, zB, zI, zR]
   refine AW.exit ?_
   rw [← hQl1]
   refine hK5 _ _ _ ?_; clear hK5
   refine AW.seq fun K10 hK10 => ?_
   refine AW.regionK 0 (fun _ => none) [2] [] ?_
   simp only [go_sem, reduceIte, reduceCtorEq, zA, zM, zE, zL, zD, zS, zP, zB, zI, zR, yaa]
   repeat with_reducible refine cj ?_ ?_
   all_goals try first | omega
   refine hK10 _ _ _ ?_; clear hK10
   refine AW.ret ?_
   rw [← hQr]
   simp only [go_sem, reduceIte, reduceCtorEq, zA, zM, zE, zL, zD, zS, zP, zB, zI, zR, yaa]
   have hj : j = l.length - 1 := by omega
   subst hj
   exact Wk.refl _
def ymt (n : Nat) (t : List (List Bool)) : Int := if n = 0 then 0 else mxU (levO n t) (n - 1) + 1
theorem height_g (n : Nat) (t : List (List Bool)) (hs : Sq n t) (hn : n ≤ 512) (hp : poB n t = true) (hl : (yas t n).length ≤ 2000) (hlv : (levO n t).length = n) (hb : ∀ j, mxU (levO n t) j ≤ 1000000 ∧ -1000000 ≤ mxU (levO n t) j) : Reads Tryd.prog 13 false [relB t] (.tup [.int .i64 (ymt n t), .int .i64 0]) := by
 have he := yos n t hs hn hp
 rw [if_pos hl] at he
 have hlev := levels_g n t hs hn hp
 have hmx := fun h => max_r (levO n t) (by omega) h
 have hbb := hb ((levO n t).length - 1)
 have hht : ymt n t = if n = 0 then 0 else mxU (levO n t) (n - 1) + 1 := rfl
 rw [hht]
 clear hb hht
 unfold relB at *
 generalize levO n t = L at *
 refine Reads.body (rs := [.tmp 2, .tmp 3]) Tryd.func13 rfl Tryd.ntmps13 rfl (by simp) ?_
 generalize hQr : retQ _ _ _ = Qr
 refine AW.seq fun K1 hK1 => ?_
 refine AW.regionK 0 (fun _ => none) [1] [1] ?_
 simp only [go_sem, reduceIte, reduceCtorEq, zA, zM, zE, zL, zD, zS, zP, zB, zI, zR, yaa]
 repeat with_reducible refine cj ?_ ?_
 all_goals try first | omega
 refine hK1 _ _ _ ?_; clear hK1
 refine AW.seq fun K2 hK2 => ?_
 refine AW.seq fun K3 hK3 => ?_
 refine AW.regionK 0 (fun ii => if ii = 1 then some (.reads false (.tup [.rsl 2 ((yas t n).map ya8), .int .i64 0])) else none) [1, 5] [1] ?_
 simp only [go_sem, reduceIte, reduceCtorEq, zA, zM, zE, zL, zD, zS, zP, zB, zI, zR, yaa]
 repeat with_reducible refine cj ?_ ?_
 all_goals try first | (exact he) | omega | exact ent (by kernel_rfl)
 refine hK3 _ _ _ ?_; clear hK3
 refine AW.seq fun K4 hK4 => ?_
 refine AW.regionK 0 (fun _ => none) [1, 5, 14] [1] ?_
 simp only [go_sem, reduceIte, reduceCtorEq, zA, zM, zE, zL, zD, zS, zP, zB, zI, zR, yaa]
 repeat with_reducible refine cj ?_ ?_
 all_goals try first | omega
 refine hK4 _ _ _ ?_; clear hK4
 refine AW.cond rfl (by simp only [go_sem, reduceIte, reduceCtorEq, zA, zM, zE, zL, zD, zS, zP, zB, zI, zR]) ?_ ?_
 ·intro hb
  try simp only [hB, decide_eq_true_eq, decide_eq_false_iff_not] at hb
  exfalso; simp at hb
 ·intro hb
  try simp only [hB, decide_eq_true_eq, decide_eq_false_iff_not] at hb
  refine AW.skip ?_
  refine hK2 _ _ _ ?_; clear hK2
  refine AW.seq fun K5 hK5 => ?_
  refine AW.regionK 0 (fun ii => if ii = 1 then some (.reads false (.tup [.rsl 1 (ints L), .int .i64 ((0 : Nat) : Int)])) else none) [6, 7] [] ?_
  simp only [go_sem, reduceIte, reduceCtorEq, zA, zM, zE, zL, zD, zS, zP, zB, zI, zR, yaa]
  repeat with_reducible refine cj ?_ ?_
  all_goals try first | (exact hlev) | omega | exact ent (by kernel_rfl)
  refine hK5 _ _ _ ?_; clear hK5
  refine AW.seq fun K6 hK6 => ?_
  refine AW.seq fun K7 hK7 => ?_
  refine AW.regionK 0 (fun _ => none) [6, 7, 27] [] ?_
  simp only [go_sem, reduceIte, reduceCtorEq, zA, zM, zE, zL, zD, zS, zP, zB, zI, zR, yaa]
  repeat with_reducible refine cj ?_ ?_
  all_goals try first | omega | (intros; (repeat' apply And.intro) <;> first | assumption | omega | decide) | (intro hgd; exact absurd hgd (by decide)) | rfl | (simp only [go_sem, reduceIte, reduceCtorEq, zA, zM, zE, zL, zD, zS, zP, zB, zI, zR, yaa]; done) | (intro _hgd; simp_all [go_sem]; done)
  refine hK7 _ _ _ ?_; clear hK7
  refine AW.cond rfl (by simp only [go_sem, reduceIte, reduceCtorEq, zA, zM, zE, zL, zD, zS, zP, zB, zI, zR]) ?_ ?_
  ·intro hb
   try simp only [hB, decide_eq_true_eq, decide_eq_false_iff_not] at hb
   have hn0 : n = 0 := by first | omega | (simp at hb; omega)
   refine AW.seq fun K8 hK8 => ?_
   refine AW.regionK 0 (fun _ => none) [2, 3] [] ?_
   simp only [go_sem, reduceIte, reduceCtorEq, zA, zM, zE, zL, zD, zS, zP, zB, zI, zR, yaa]
   repeat with_reducible refine cj ?_ ?_
   all_goals try first | omega
   refine hK8 _ _ _ ?_; clear hK8
   refine AW.ret ?_
   rw [← hQr]
   simp only [go_sem, reduceIte, reduceCtorEq, zA, zM, zE, zL, zD, zS, zP, zB, zI, zR, yaa]
   exact Wk.of_eq (by rw [if_pos hn0]; simp)
  ·intro hb
   try simp only [hB, decide_eq_true_eq, decide_eq_false_iff_not] at hb
   have hn0 : n ≠ 0 := by first | omega | (simp at hb; omega)
   have hmx := hmx (by omega)
   refine AW.skip ?_
   refine hK6 _ _ _ ?_; clear hK6
   refine AW.seq fun K9 hK9 => ?_
   refine AW.regionK 0 (fun ii => if ii = 1 then some (.reads false (.int .i64 (mxU L (L.length - 1)))) else none) [2, 3] [] ?_
   simp only [go_sem, reduceIte, reduceCtorEq, zA, zM, zE, zL, zD, zS, zP, zB, zI, zR, yaa]
   repeat with_reducible refine cj ?_ ?_
   all_goals try first | (exact hmx) | omega | exact ent (by kernel_rfl)
   refine hK9 _ _ _ ?_; clear hK9
   refine AW.ret ?_
   rw [← hQr]
   simp only [go_sem, reduceIte, reduceCtorEq, zA, zM, zE, zL, zD, zS, zP, zB, zI, zR, yaa]
   exact Wk.of_eq (by rw [if_neg hn0, hlv])
end Go.Proofs.W

namespace Go.Proofs.W
open Go.AM Go
set_option maxRecDepth 100000
set_option maxHeartbeats 2000000
def okC (n : Nat) (t : List (List Bool)) (c : List Int) : Bool := !decide (c.length = 0) && chainB n t c
def ye1 (n : Nat) (t : List (List Bool)) (cs : List (List Int)) : Bool := cs.all (okC n t) && (decide cs.flatten.Nodup && decide (cs.flatten.length = n))
theorem ykw {n : Nat} {t : List (List Bool)} {c : List Int} (h : okC n t c = true) : ∀ x ∈ c, 0 ≤ x ∧ x < (n : Int) := fun x hx => by
 unfold okC chainB at h
 simp only [Bool.and_eq_true, Bool.not_eq_true'] at h
 have h1 := h.2.1
 rw [List.any_eq_false] at h1
 have := h1 x hx
 unfold outB at this
 simp at this
 omega
theorem yn6 {n : Nat} {l : List Int} {x : Int} (h : 0 ≤ x ∧ x < (n : Int)) : (rowL n l).set x.toNat true = rowL n (l ++ [x]) := by
 refine yhj (by simp [ycv]) fun i hi => ?_
 simp only [List.length_set, ycv] at hi
 rw [ykg, ydp hi, ydp hi, ycv]
 by_cases e : x.toNat = i
 ·rw [if_pos (by omega)]
  have : (i : Int) = x := by omega
  simp [this]
 ·rw [if_neg (by omega)]
  have : ¬ (i : Int) = x := by omega
  simp [this]
theorem ylr {cs : List (List Int)} {j k : Nat} {c : List Int} {x : Int} (hc : cs[j]? = some c) (hx : c[k]? = some x) : cs.flatten = ((cs.take j).flatten ++ c.take k) ++ x :: (c.drop (k + 1) ++ (cs.drop (j + 1)).flatten) := by
 obtain ⟨hj, rfl⟩ := List.getElem?_eq_some_iff.1 hc
 obtain ⟨hk, rfl⟩ := List.getElem?_eq_some_iff.1 hx
 have e1 : cs = cs.take j ++ cs[j] :: cs.drop (j + 1) := by rw [← List.drop_eq_getElem_cons hj, List.take_append_drop]
 have e2 : cs[j] = cs[j].take k ++ cs[j][k] :: cs[j].drop (k + 1) := by rw [← List.drop_eq_getElem_cons hk, List.take_append_drop]
 have e3 := congrArg List.flatten e1
 rw [List.flatten_append, List.flatten_cons] at e3
 have e4 := congrArg (fun z => (cs.take j).flatten ++ (z ++ (cs.drop (j + 1)).flatten)) e2
 rw [e3, e4, List.append_assoc (cs.take j).flatten, List.append_assoc (cs[j].take k), List.cons_append]
theorem yja {F R : List Int} {x : Int} (h : x ∈ F) : ¬ (F ++ x :: R).Nodup := fun hn => by
 have := (List.nodup_append.1 hn).2.2 x h x (by simp)
 exact this rfl
theorem yh4 {n : Nat} {F : List Int} (hn : F.Nodup) (hr : ∀ x ∈ F, 0 ≤ x ∧ x < (n : Int)) : F.length ≤ n := by
 have := ycx (l := F) (l' := (List.range n).map fun (i : Nat) => (i : Int)) hn fun x hx => by
  have := hr x hx
  exact List.mem_map.2 ⟨x.toNat, List.mem_range.2 (by omega), by omega⟩
 simpa using this
theorem check_g (n : Nat) (t : List (List Bool)) (hs : Sq n t) (hn : n ≤ 512) (hp : poB n t = true) (b : List Bool) (hb0 : b.length = n) (cs : List (List Int)) (hl : cs.length ≤ 100000) (hll : ∀ c ∈ cs, c.length ≤ 100000) :
  Reads Tryd.prog 19 false [relB t, .agg [.int .i64 n, .rsl 1 (words (setW b n))], .rsl 1 (M.nbR cs)] (.bool (antiB t b && decide (cs.length = (memB b).length) && ye1 n t cs)) := by
 have htl : (tabR t).length = n := by rw [ybw, hs.len]
 have ha := yp3 n t hs hn hp b hb0
 have hc := yrq b (by omega)
 have hml := ykq b
 unfold rowB at hc
 rw [hb0] at hc
 have hic := fun c h => ykv n t hs hn hp c h
 have hnl := M.nbR_len cs
 have hz : List.replicate n [AV.bool false] = ya9 (rowL n []) := by rw [ypx]; simp [ya9]
 generalize setW b n = W at *
 generalize hmb : (memB b).length = mb at *
 unfold relB at *
 refine Reads.body (rs := [.tmp 6]) Tryd.func19 rfl Tryd.ntmps19 rfl (by simp) ?_
 generalize hQr : retQ _ _ _ = Qr
 refine AW.seq fun K1 hK1 => ?_
 refine AW.regionK 0 (fun _ => none) [2, 3, 4] [3, 4, 27] ?_
 simp only [go_sem, reduceIte, reduceCtorEq, zA, zM, zE, zL, zD, zS, zP, zB, zI, zR, htl, hnl, yaa]
 repeat with_reducible refine cj ?_ ?_
 all_goals try first | omega
 refine hK1 _ _ _ ?_; clear hK1
 refine AW.seq fun K2 hK2 => ?_
 refine AW.seq fun K3 hK3 => ?_
 refine AW.regionK 0 (fun ii => if ii = 2 then some (.reads false (.bool (antiB t b))) else if ii = 8 then some (.reads false (.int .i64 (mb : Nat))) else none) [2, 3, 23] [3, 27] ?_
 simp only [go_sem, reduceIte, reduceCtorEq, zA, zM, zE, zL, zD, zS, zP, zB, zI, zR, htl, hnl, yaa]
 repeat with_reducible refine cj ?_ ?_
 all_goals try first | (first | exact ha | (intro hh; exact ⟨hh, hc⟩)) | (intros; (repeat' apply And.intro) <;> first | assumption | (first | exact ha | (intro hh; exact ⟨hh, hc⟩))) | omega | exact ent (by kernel_rfl) | (intro hgd; exact absurd hgd (by decide)) | rfl | (simp only [go_sem, reduceIte, reduceCtorEq, zA, zM, zE, zL, zD, zS, zP, zB, zI, zR, htl, hnl, yaa]; done) | (intro _hgd; simp_all [go_sem]; done)
 refine hK3 _ _ _ ?_; clear hK3
 refine AW.cond rfl (by simp only [go_sem, reduceIte, reduceCtorEq, zA, zM, zE, zL, zD, zS, zP, zB, zI, zR]) ?_ ?_
 ·intro hb
  try simp only [hB, decide_eq_true_eq, decide_eq_false_iff_not] at hb
  refine AW.seq fun K4 hK4 => ?_
  refine AW.regionK 0 (fun _ => none) [6] [3, 27] ?_
  simp only [go_sem, reduceIte, reduceCtorEq, zA, zM, zE, zL, zD, zS, zP, zB, zI, zR, htl, hnl, yaa]
  repeat with_reducible refine cj ?_ ?_
  all_goals try first | omega
  refine hK4 _ _ _ ?_; clear hK4
  refine AW.ret ?_
  rw [← hQr]
  simp only [go_sem, reduceIte, reduceCtorEq, zA, zM, zE, zL, zD, zS, zP, zB, zI, zR, htl, hnl, yaa]
  exact Wk.of_eq (by revert hb; cases antiB t b <;> simp; intro h h2; omega)
 ·intro hb
  try simp only [hB, decide_eq_true_eq, decide_eq_false_iff_not] at hb
  have hanti : antiB t b = true := by revert hb; cases antiB t b <;> simp
  have hlm : cs.length = mb := by rw [hanti] at hb; simp at hb; omega
  clear hb
  refine AW.skip ?_
  refine hK2 _ _ _ ?_; clear hK2
  refine AW.seq fun K5 hK5 => ?_
  refine AW.regionK 0 (fun _ => none) [2, 3, 7] [3, 27] ?_
  simp only [go_sem, reduceIte, reduceCtorEq, zA, zM, zE, zL, zD, zS, zP, zB, zI, zR, htl, hnl, yaa, hz]
  repeat with_reducible refine cj ?_ ?_
  all_goals try first | omega
  refine hK5 _ _ _ ?_; clear hK5
  refine AW.seq fun K6 hK6 => ?_
  refine AW.regionK 0 (fun _ => none) [2, 3, 7, 8] [3, 27] ?_
  simp only [go_sem, reduceIte, reduceCtorEq, zA, zM, zE, zL, zD, zS, zP, zB, zI, zR, htl, hnl, yaa]
  repeat with_reducible refine cj ?_ ?_
  all_goals try first | omega
  refine hK6 _ _ _ ?_; clear hK6
  refine AW.seq fun K7 hK7 => ?_
  refine AW.seq fun K8 hK8 => ?_
  refine AW.regionK 0 (fun _ => none) [3, 7, 8, 28, 29, 30] [3, 27] ?_
  simp only [go_sem, reduceIte, reduceCtorEq, zA, zM, zE, zL, zD, zS, zP, zB, zI, zR, htl, hnl, yaa]
  repeat with_reducible refine cj ?_ ?_
  all_goals try first | omega
  refine hK8 _ _ _ ?_; clear hK8
  refine AW.block ?_
  refine AW.loopE (fun mm ee ss kk => ∃ (j g3 v3 g7 v7 : Nat), cs.length - j = mm ∧ ee = [(3, .ptr ⟨3, g3, none⟩ 0 0), (7, .sl ⟨27, g7, none⟩ 0 n none), (8, .int .i64 ((cs.take j).flatten.length : Nat)), (28, .rsl 1 (M.nbR cs)), (29, .int .i64 cs.length), (30, .int .i64 (j : Nat))] ∧ ss = [(3, some ⟨g3, v3, 1, [[.rsl 2 (tabR t)]]⟩), (27, some ⟨g7, v7, 1, ya9 (rowL n (cs.take j).flatten)⟩)] ∧ (j ≤ cs.length ∧ (cs.take j).all (okC n t) = true ∧ (cs.take j).flatten.Nodup ∧ ∀ x ∈ (cs.take j).flatten, 0 ≤ x ∧ x < (n : Int))) ?_ ?_
  ·refine ⟨_, 0, ?_, ?_, ?_, ?_, rfl, ?henv, ?hstore, ?hst⟩
   case henv =>
    repeat' (first | rfl | refine yab ?_ ?_ | refine yad ?_ ?_ ?_ ?_ | refine yag ?_ | refine yae ?_ | refine yah ?_ | refine yai ?_ | refine yan ?_ ?_ ?_ | refine yaj ?_ ?_ ?_ | refine yak ?_ | refine yaf ?_ ?_ | refine yac ?_ ?_)
    all_goals (first | (simp; done) | omega | (simp; omega))
   case hstore =>
    repeat' (first | rfl | refine yab ?_ ?_ | refine yad ?_ ?_ ?_ ?_ | refine yag ?_ | refine yae ?_ | refine yah ?_ | refine yai ?_ | refine yan ?_ ?_ ?_ | refine yaj ?_ ?_ ?_ | refine yak ?_ | refine yaf ?_ ?_ | refine yac ?_ ?_)
    all_goals (first | (simp; done) | omega | (simp; omega))
   case hst =>
    exact ⟨by omega, by simp, by simp, by simp⟩
  rintro mm ee ss kk ⟨j, g3, v3, g7, v7, rfl, rfl, rfl, hI⟩
  generalize hQl1 : ybb _ _ = Ql1
  obtain ⟨hj, hok, hnd, hrg⟩ := hI
  refine AW.seq fun K9 hK9 => ?_
  refine AW.regionK 0 (fun _ => none) [3, 7, 8, 28, 29, 30, 31] [3, 27] ?_
  simp only [go_sem, reduceIte, reduceCtorEq, zA, zM, zE, zL, zD, zS, zP, zB, zI, zR, htl, hnl, yaa]
  repeat with_reducible refine cj ?_ ?_
  all_goals try first | omega
  refine hK9 _ _ _ ?_; clear hK9
  refine AW.seq fun K10 hK10 => ?_
  refine AW.cond rfl (by simp only [go_sem, reduceIte, reduceCtorEq, zA, zM, zE, zL, zD, zS, zP, zB, zI, zR]) ?_ ?_
  ·intro hb
   try simp only [hB, decide_eq_true_eq, decide_eq_false_iff_not] at hb
   obtain ⟨c, hcj⟩ := getI (l := cs) (j := j) (by omega)
   have hgc := M.nbR_get hcj
   have hcl := hll c (List.mem_of_getElem? hcj)
   have hcc := hic c (by omega)
   have htj : (cs.take (j + 1)) = cs.take j ++ [c] := by rw [List.take_add_one, hcj]; rfl
   have hats := ycr (p := okC n t) hcj
   have hfl0 := yh4 hnd hrg
   refine AW.skip ?_
   refine hK10 _ _ _ ?_; clear hK10
   refine AW.seq fun K11 hK11 => ?_
   refine AW.block ?_
   refine AW.seq fun K12 hK12 => ?_
   refine AW.regionK 0 (fun _ => none) [3, 7, 8, 10, 28, 29, 30] [3, 27] ?_
   simp only [go_sem, reduceIte, reduceCtorEq, zA, zM, zE, zL, zD, zS, zP, zB, zI, zR, htl, hnl, yaa, hgc]
   repeat with_reducible refine cj ?_ ?_
   all_goals try first | omega
   refine hK12 _ _ _ ?_; clear hK12
   refine AW.seq fun K13 hK13 => ?_
   refine AW.seq fun K14 hK14 => ?_
   refine AW.regionK 0 (fun ii => if ii = 6 then some (.reads false (.bool (chainB n t c))) else none) [3, 7, 8, 10, 28, 29, 30, 42] [3, 27] ?_
   simp only [go_sem, reduceIte, reduceCtorEq, zA, zM, zE, zL, zD, zS, zP, zB, zI, zR, htl, hnl, yaa]
   repeat with_reducible refine cj ?_ ?_
   all_goals try first | (first | exact hcc | (intro hh; exact ⟨hh, hcc⟩)) | (intros; (repeat' apply And.intro) <;> first | assumption | (first | exact hcc | (intro hh; exact ⟨hh, hcc⟩))) | omega | exact ent (by kernel_rfl) | (intro hgd; exact absurd hgd (by decide)) | rfl | (simp only [go_sem, reduceIte, reduceCtorEq, zA, zM, zE, zL, zD, zS, zP, zB, zI, zR, htl, hnl, yaa]; done) | (intro _hgd; simp_all [go_sem]; done)
   refine hK14 _ _ _ ?_; clear hK14
   refine AW.cond rfl (by simp only [go_sem, reduceIte, reduceCtorEq, zA, zM, zE, zL, zD, zS, zP, zB, zI, zR]) ?_ ?_
   ·intro hb
    try simp only [hB, decide_eq_true_eq, decide_eq_false_iff_not] at hb
    refine AW.seq fun K15 hK15 => ?_
    refine AW.regionK 0 (fun _ => none) [6] [3, 27] ?_
    simp only [go_sem, reduceIte, reduceCtorEq, zA, zM, zE, zL, zD, zS, zP, zB, zI, zR, htl, hnl, yaa]
    repeat with_reducible refine cj ?_ ?_
    all_goals try first | omega
    refine hK15 _ _ _ ?_; clear hK15
    refine AW.ret ?_
    rw [← hQl1]
    rw [← hQr]
    simp only [go_sem, reduceIte, reduceCtorEq, zA, zM, zE, zL, zD, zS, zP, zB, zI, zR, htl, hnl, yaa]
    have hf : ye1 n t cs = false := by
     have : cs.all (okC n t) = false := yd5 hcj (by unfold okC; revert hb; cases chainB n t c <;> simp)
     unfold ye1; rw [this]; rfl
    exact Wk.of_eq (by rw [hf]; simp)
   ·intro hb
    try simp only [hB, decide_eq_true_eq, decide_eq_false_iff_not] at hb
    have hokc : okC n t c = true := by unfold okC; revert hb; cases chainB n t c <;> simp
    have hcr := ykw hokc
    clear hb
    refine AW.skip ?_
    refine hK13 _ _ _ ?_; clear hK13
    refine AW.seq fun K16 hK16 => ?_
    refine AW.regionK 0 (fun _ => none) [3, 7, 8, 28, 29, 30, 43, 44, 45] [3, 27] ?_
    simp only [go_sem, reduceIte, reduceCtorEq, zA, zM, zE, zL, zD, zS, zP, zB, zI, zR, htl, hnl, yaa]
    repeat with_reducible refine cj ?_ ?_
    all_goals try first | omega
    refine hK16 _ _ _ ?_; clear hK16
    refine AW.block ?_
    refine AW.loopE (fun mm ee ss kk => ∃ (k g3 v3 g7 v7 : Nat), c.length - k = mm ∧ ee = [(3, .ptr ⟨3, g3, none⟩ 0 0), (7, .sl ⟨27, g7, none⟩ 0 n none), (8, .int .i64 (((cs.take j).flatten ++ c.take k).length : Nat)), (28, .rsl 1 (M.nbR cs)), (29, .int .i64 cs.length), (30, .int .i64 (j : Nat)), (43, .rsl 1 (ints c)), (44, .int .i64 c.length), (45, .int .i64 (k : Nat))] ∧ ss = [(3, some ⟨g3, v3, 1, [[.rsl 2 (tabR t)]]⟩), (27, some ⟨g7, v7, 1, ya9 (rowL n ((cs.take j).flatten ++ c.take k))⟩)] ∧ (k ≤ c.length ∧ ((cs.take j).flatten ++ c.take k).Nodup ∧ ∀ x ∈ ((cs.take j).flatten ++ c.take k), 0 ≤ x ∧ x < (n : Int))) ?_ ?_
    ·refine ⟨_, 0, ?_, ?_, ?_, ?_, rfl, ?henv, ?hstore, ?hst⟩
     case henv =>
      repeat' (first | rfl | refine yab ?_ ?_ | refine yad ?_ ?_ ?_ ?_ | refine yag ?_ | refine yae ?_ | refine yah ?_ | refine yai ?_ | refine yan ?_ ?_ ?_ | refine yaj ?_ ?_ ?_ | refine yak ?_ | refine yaf ?_ ?_ | refine yac ?_ ?_)
      all_goals simp
     case hstore =>
      repeat' (first | rfl | refine yab ?_ ?_ | refine yad ?_ ?_ ?_ ?_ | refine yag ?_ | refine yae ?_ | refine yah ?_ | refine yai ?_ | refine yan ?_ ?_ ?_ | refine yaj ?_ ?_ ?_ | refine yak ?_ | refine yaf ?_ ?_ | refine yac ?_ ?_)
      all_goals simp
     case hst =>
      exact ⟨by omega, by simpa using hnd, by simpa using hrg⟩
    rintro mm ee ss kk ⟨k, g3, v3, g7, v7, rfl, rfl, rfl, hI⟩
    generalize hQl2 : ybb _ _ = Ql2
    obtain ⟨hk, hnd2, hrg2⟩ := hI
    have hfl2 := yh4 hnd2 hrg2
    refine AW.seq fun K17 hK17 => ?_
    refine AW.regionK 0 (fun _ => none) [3, 7, 8, 28, 29, 30, 43, 44, 45, 46] [3, 27] ?_
    simp only [go_sem, reduceIte, reduceCtorEq, zA, zM, zE, zL, zD, zS, zP, zB, zI, zR, htl, hnl, yaa]
    repeat with_reducible refine cj ?_ ?_
    all_goals try first | omega
    refine hK17 _ _ _ ?_; clear hK17
    refine AW.seq fun K18 hK18 => ?_
    refine AW.cond rfl (by simp only [go_sem, reduceIte, reduceCtorEq, zA, zM, zE, zL, zD, zS, zP, zB, zI, zR]) ?_ ?_
    ·intro hb
     try simp only [hB, decide_eq_true_eq, decide_eq_false_iff_not] at hb
     obtain ⟨x, hx⟩ := getI (l := c) (j := k) (by omega)
     have hgx := ych hx
     have hxr := hcr x (List.mem_of_getElem? hx)
     have hsp := ylr hcj hx
     have htk : (cs.take j).flatten ++ c.take (k + 1) = ((cs.take j).flatten ++ c.take k) ++ [x] := by rw [List.take_add_one, hx]; simp
     generalize hF : (cs.take j).flatten ++ c.take k = F at *
     have hrl := ycv n F
     have hgs := ybr (l := rowL n F) (i := x.toNat) (by omega)
     rw [ydp (by omega), Int.toNat_of_nonneg hxr.1] at hgs
     have hus := bools_upd (rowL n F) x.toNat true
     rw [yn6 hxr] at hus
     refine AW.skip ?_
     refine hK18 _ _ _ ?_; clear hK18
     refine AW.seq fun K19 hK19 => ?_
     refine AW.block ?_
     refine AW.seq fun K20 hK20 => ?_
     refine AW.regionK 0 (fun _ => none) [3, 7, 8, 12, 28, 29, 30, 43, 44, 45] [3, 27] ?_
     simp only [go_sem, reduceIte, reduceCtorEq, zA, zM, zE, zL, zD, zS, zP, zB, zI, zR, htl, hnl, yaa, hgx]
     repeat with_reducible refine cj ?_ ?_
     all_goals try first | omega
     refine hK20 _ _ _ ?_; clear hK20
     refine AW.seq fun K21 hK21 => ?_
     refine AW.seq fun K22 hK22 => ?_
     refine AW.regionK 0 (fun _ => none) [3, 7, 8, 12, 28, 29, 30, 43, 44, 45, 52] [3, 27] ?_
     simp only [go_sem, reduceIte, reduceCtorEq, zA, zM, zE, zL, zD, zS, zP, zB, zI, zR, htl, hnl, yaa, hrl, hgs]
     repeat with_reducible refine cj ?_ ?_
     all_goals try first | omega
     refine hK22 _ _ _ ?_; clear hK22
     refine AW.cond rfl (by simp only [go_sem, reduceIte, reduceCtorEq, zA, zM, zE, zL, zD, zS, zP, zB, zI, zR]) ?_ ?_
     ·intro hb
      try simp only [hB, decide_eq_true_eq, decide_eq_false_iff_not] at hb
      refine AW.seq fun K23 hK23 => ?_
      refine AW.regionK 0 (fun _ => none) [6] [3, 27] ?_
      simp only [go_sem, reduceIte, reduceCtorEq, zA, zM, zE, zL, zD, zS, zP, zB, zI, zR, htl, hnl, yaa]
      repeat with_reducible refine cj ?_ ?_
      all_goals try first | omega
      refine hK23 _ _ _ ?_; clear hK23
      refine AW.ret ?_
      rw [← hQl2]
      rw [← hQl1]
      rw [← hQr]
      simp only [go_sem, reduceIte, reduceCtorEq, zA, zM, zE, zL, zD, zS, zP, zB, zI, zR, htl, hnl, yaa]
      have hf : ye1 n t cs = false := by
       have : decide cs.flatten.Nodup = false := decide_eq_false (by rw [hsp]; exact yja hb)
       unfold ye1; rw [this]; simp
      exact Wk.of_eq (by rw [hf]; simp)
     ·intro hb
      try simp only [hB, decide_eq_true_eq, decide_eq_false_iff_not] at hb
      refine AW.skip ?_
      refine hK21 _ _ _ ?_; clear hK21
      refine AW.seq fun K24 hK24 => ?_
      refine AW.regionK 0 (fun _ => none) [3, 7, 8, 28, 29, 30, 43, 44, 45] [3, 27] ?_
      simp only [go_sem, reduceIte, reduceCtorEq, zA, zM, zE, zL, zD, zS, zP, zB, zI, zR, htl, hnl, yaa, hrl, hus]
      repeat with_reducible refine cj ?_ ?_
      all_goals try first | omega
      refine hK24 _ _ _ ?_; clear hK24
      refine AW.regionK 0 (fun _ => none) [3, 7, 8, 28, 29, 30, 43, 44, 45] [3, 27] ?_
      simp only [go_sem, reduceIte, reduceCtorEq, zA, zM, zE, zL, zD, zS, zP, zB, zI, zR, htl, hnl, yaa]
      repeat with_reducible refine cj ?_ ?_
      all_goals try first | omega
      refine hK19 _ _ _ ?_; clear hK19
      refine AW.regionK 0 (fun _ => none) [3, 7, 8, 28, 29, 30, 43, 44, 45] [3, 27] ?_
      simp only [go_sem, reduceIte, reduceCtorEq, zA, zM, zE, zL, zD, zS, zP, zB, zI, zR, htl, hnl, yaa]
      repeat with_reducible refine cj ?_ ?_
      all_goals try first | omega
      rw [← hQl2]
      change Exists _
      refine ⟨_, ?hm, k + 1, ?_, ?_, ?_, ?_, rfl, ?henv, ?hstore, ?hst⟩
      case henv =>
       repeat' (first | rfl | refine yab ?_ ?_ | refine yad ?_ ?_ ?_ ?_ | refine yag ?_ | refine yae ?_ | refine yah ?_ | refine yai ?_ | refine yan ?_ ?_ ?_ | refine yaj ?_ ?_ ?_ | refine yak ?_ | refine yaf ?_ ?_ | refine yac ?_ ?_)
       all_goals (first | (rw [htk]; simp; done) | (simp; done) | omega)
      case hstore =>
       repeat' (first | rfl | refine yab ?_ ?_ | refine yad ?_ ?_ ?_ ?_ | refine yag ?_ | refine yae ?_ | refine yah ?_ | refine yai ?_ | refine yan ?_ ?_ ?_ | refine yaj ?_ ?_ ?_ | refine yak ?_ | refine yaf ?_ ?_ | refine yac ?_ ?_)
       all_goals (rw [htk])
      case hst =>
       rw [htk]
       refine ⟨by omega, List.nodup_append.2 ⟨hnd2, by simp, ?_⟩, fun y hy => ?_⟩
       ·intro a ha z hz e
        simp only [List.mem_singleton] at hz
        subst hz; subst e; exact hb ha
       ·rcases List.mem_append.1 hy with h | h
        ·exact hrg2 y h
        ·simp only [List.mem_singleton] at h
         rw [h]; exact hxr
      case hm => omega
    ·intro hb
     try simp only [hB, decide_eq_true_eq, decide_eq_false_iff_not] at hb
     have hk2 : k = c.length := by omega
     have hfe : (cs.take j).flatten ++ c.take k = (cs.take (j + 1)).flatten := by rw [hk2, List.take_length, htj]; simp
     rw [hfe] at hnd2 hrg2 hfl2 ⊢
     refine AW.keep [3, 7, 8, 28, 29, 30] [3, 27] ?_
     try simp only [go_sem, reduceIte, reduceCtorEq, zA, zM, zE, zL, zD, zS, zP, zB, zI, zR]
     refine AW.exit ?_
     rw [← hQl2]
     refine hK11 _ _ _ ?_; clear hK11
     refine AW.regionK 0 (fun _ => none) [3, 7, 8, 28, 29, 30] [3, 27] ?_
     simp only [go_sem, reduceIte, reduceCtorEq, zA, zM, zE, zL, zD, zS, zP, zB, zI, zR, htl, hnl, yaa]
     repeat with_reducible refine cj ?_ ?_
     all_goals try first | omega
     rw [← hQl1]
     change Exists _
     refine ⟨_, ?hm, j + 1, ?_, ?_, ?_, ?_, rfl, ?henv, ?hstore, ?hst⟩
     case henv =>
      repeat' (first | rfl | refine yab ?_ ?_ | refine yad ?_ ?_ ?_ ?_ | refine yag ?_ | refine yae ?_ | refine yah ?_ | refine yai ?_ | refine yan ?_ ?_ ?_ | refine yaj ?_ ?_ ?_ | refine yak ?_ | refine yaf ?_ ?_ | refine yac ?_ ?_)
      all_goals (first | (simp; done) | omega | (simp; omega))
     case hstore =>
      repeat' (first | rfl | refine yab ?_ ?_ | refine yad ?_ ?_ ?_ ?_ | refine yag ?_ | refine yae ?_ | refine yah ?_ | refine yai ?_ | refine yan ?_ ?_ ?_ | refine yaj ?_ ?_ ?_ | refine yak ?_ | refine yaf ?_ ?_ | refine yac ?_ ?_)
      all_goals (first | (simp; done) | omega | (simp; omega))
     case hst =>
      exact ⟨by omega, by rw [hats, hok, hokc]; rfl, hnd2, hrg2⟩
     case hm => omega
  ·intro hb
   try simp only [hB, decide_eq_true_eq, decide_eq_false_iff_not] at hb
   have hj2 : j = cs.length := by omega
   rw [hj2, List.take_length] at hok hnd hrg ⊢
   refine AW.keep [3, 8] [3, 27] ?_
   try simp only [go_sem, reduceIte, reduceCtorEq, zA, zM, zE, zL, zD, zS, zP, zB, zI, zR]
   refine AW.exit ?_
   rw [← hQl1]
   refine hK7 _ _ _ ?_; clear hK7
   refine AW.seq fun K25 hK25 => ?_
   refine AW.regionK 0 (fun _ => none) [6] [3, 27] ?_
   simp only [go_sem, reduceIte, reduceCtorEq, zA, zM, zE, zL, zD, zS, zP, zB, zI, zR, htl, hnl, yaa]
   repeat with_reducible refine cj ?_ ?_
   all_goals try first | omega
   refine hK25 _ _ _ ?_; clear hK25
   refine AW.ret ?_
   rw [← hQr]
   simp only [go_sem, reduceIte, reduceCtorEq, zA, zM, zE, zL, zD, zS, zP, zB, zI, zR, htl, hnl, yaa]
   exact Wk.of_eq (by unfold ye1; rw [hanti, hok, decide_eq_true hlm, decide_eq_true hnd]; simp only [Bool.true_and]; congr 1; exact decide_eq_decide.2 (by omega))
end Go.Proofs.W

namespace Go.Proofs.W
open Go.AM Go
set_option maxRecDepth 100000
set_option maxHeartbeats 2000000
theorem wrap64 {i : Int} (h0 : 0 ≤ i) : IntKind.u64.wrap (i.tmod 64) = i.tmod 64 := by
 have : 0 ≤ i.tmod 64 ∧ i.tmod 64 < 64 := by rw [Int.tmod_eq_emod_of_nonneg h0]; omega
 simp [IntKind.wrap, IntKind.signed, IntKind.bits]; omega
theorem yr3 (b : List Bool) (hb : b.length ≤ 512) (i : Int) (h0 : 0 ≤ i) (h1 : i < b.length) : Reads Tryd.prog 52 false [.agg [.int .i64 b.length, .rsl 1 (words (setW b b.length))], .int .i64 i] (.bool (b.getD i.toNat false)) := by
 have hd := yct (i := i) (n := b.length) h0 (by omega)
 have hwl := ya1 b
 have hgw := ybl (l := setW b b.length) (i := (i.tdiv 64).toNat) (by omega)
 have hwr := wrap64 h0
 have hm := ypm h0 h1
 have hbl := yez hb
 unfold hasW at *
 generalize setW b b.length = W at *
 refine Reads.body (rs := [.tmp 4]) Tryd.func52 rfl Tryd.ntmps52 rfl (by simp) ?_
 generalize hQr : retQ _ _ _ = Qr
 refine AW.seq fun K1 hK1 => ?_
 refine AW.regionK 0 (fun _ => none) [1, 2] [2] ?_
 simp only [go_sem, reduceIte, reduceCtorEq, zA, zM, zE, zL, zD, zS, zP, zB, zI, zR]
 repeat with_reducible refine cj ?_ ?_
 all_goals try first | omega
 refine hK1 _ _ _ ?_; clear hK1
 refine AW.seq fun K2 hK2 => ?_
 refine AW.regionK 0 (fun _ => none) [4] [] ?_
 simp only [go_sem, reduceIte, reduceCtorEq, zA, zM, zE, zL, zD, zS, zP, zB, zI, zR, hgw, hwr]
 repeat with_reducible refine cj ?_ ?_
 all_goals try first | omega
 refine hK2 _ _ _ ?_; clear hK2
 refine AW.ret ?_
 rw [← hQr]
 simp only [go_sem, reduceIte, reduceCtorEq, zA, zM, zE, zL, zD, zS, zP, zB, zI, zR]
 exact Wk.of_eq (by rw [hm])
theorem fil_succ (p : Nat → Bool) (j : Nat) : ((List.range (j + 1)).filter p).length = ((List.range j).filter p).length + if p j = true then 1 else 0 := by
 rw [List.range_succ, List.filter_append, List.length_append]
 by_cases h : p j = true <;> simp [h]
theorem fil_le (p : Nat → Bool) (j : Nat) : ((List.range j).filter p).length ≤ j := by
 have := List.length_filter_le p (List.range j)
 simpa using this
theorem yr4 (b : List Bool) (hb : b.length ≤ 512) : Reads Tryd.prog 24 false [.agg [.int .i64 b.length, .rsl 1 (words (setW b b.length))]] (.int .i64 ((memB b).length : Nat)) := by
 have hhr := yr3 b hb
 have hmb : (memB b).length = ((List.range b.length).filter fun i => b.getD i false).length := rfl
 generalize setW b b.length = W at *
 refine Reads.body (rs := [.tmp 2]) Tryd.func24 rfl Tryd.ntmps24 rfl (by simp) ?_
 generalize hQr : retQ _ _ _ = Qr
 refine AW.seq fun K1 hK1 => ?_
 refine AW.regionK 0 (fun _ => none) [1] [1] ?_
 simp only [go_sem, reduceIte, reduceCtorEq, zA, zM, zE, zL, zD, zS, zP, zB, zI, zR]
 repeat with_reducible refine cj ?_ ?_
 all_goals try first | omega
 refine hK1 _ _ _ ?_; clear hK1
 refine AW.seq fun K2 hK2 => ?_
 refine AW.regionK 0 (fun _ => none) [1, 3] [1] ?_
 simp only [go_sem, reduceIte, reduceCtorEq, zA, zM, zE, zL, zD, zS, zP, zB, zI, zR]
 repeat with_reducible refine cj ?_ ?_
 all_goals try first | omega
 refine hK2 _ _ _ ?_; clear hK2
 refine AW.seq fun K3 hK3 => ?_
 refine AW.seq fun K4 hK4 => ?_
 refine AW.regionK 0 (fun _ => none) [1, 3, 4] [1] ?_
 simp only [go_sem, reduceIte, reduceCtorEq, zA, zM, zE, zL, zD, zS, zP, zB, zI, zR]
 repeat with_reducible refine cj ?_ ?_
 all_goals try first | omega
 refine hK4 _ _ _ ?_; clear hK4
 refine AW.block ?_
 refine AW.loopE (fun mm ee ss kk => ∃ (j g1 v1 : Nat), b.length - j = mm ∧ ee = [(1, .ptr ⟨1, g1, none⟩ 0 0), (3, .int .i64 (((List.range j).filter fun i => b.getD i false).length : Nat)), (4, .int .i64 (j : Nat))] ∧ ss = [(1, some ⟨g1, v1, 2, [[.int .i64 b.length, .rsl 1 (words W)]]⟩)] ∧ (j ≤ b.length)) ?_ ?_
 ·refine ⟨_, 0, ?_, ?_, rfl, ?henv, ?hstore, ?hst⟩
  case henv =>
   repeat' (first | rfl | refine yab ?_ ?_ | refine yad ?_ ?_ ?_ ?_ | refine yag ?_ | refine yae ?_ | refine yah ?_ | refine yai ?_ | refine yan ?_ ?_ ?_ | refine yaj ?_ ?_ ?_ | refine yak ?_ | refine yaf ?_ ?_ | refine yac ?_ ?_)
   all_goals (first | (simp; done) | omega | (simp; omega))
  case hstore =>
   repeat' (first | rfl | refine yab ?_ ?_ | refine yad ?_ ?_ ?_ ?_ | refine yag ?_ | refine yae ?_ | refine yah ?_ | refine yai ?_ | refine yan ?_ ?_ ?_ | refine yaj ?_ ?_ ?_ | refine yak ?_ | refine yaf ?_ ?_ | refine yac ?_ ?_)
   all_goals (first | (simp; done) | omega | (simp; omega))
  case hst =>
   first | trivial | omega | (simp; done) | (simp; omega)
 rintro mm ee ss kk ⟨j, g1, v1, rfl, rfl, rfl, hI⟩
 generalize hQl1 : ybb _ _ = Ql1
 refine AW.seq fun K5 hK5 => ?_
 refine AW.seq fun K6 hK6 => ?_
 refine AW.regionK 0 (fun _ => none) [1, 3, 4, 8] [1] ?_
 simp only [go_sem, reduceIte, reduceCtorEq, zA, zM, zE, zL, zD, zS, zP, zB, zI, zR]
 repeat with_reducible refine cj ?_ ?_
 all_goals try first | omega
 refine hK6 _ _ _ ?_; clear hK6
 refine AW.cond rfl (by simp only [go_sem, reduceIte, reduceCtorEq, zA, zM, zE, zL, zD, zS, zP, zB, zI, zR]) ?_ ?_
 ·intro hb
  try simp only [hB, decide_eq_true_eq, decide_eq_false_iff_not] at hb
  have hh := hhr (j : Int) (by omega) (by omega)
  rw [Int.toNat_natCast] at hh
  have hsu := fil_succ (fun i => b.getD i false) j
  have hfl := fil_le (fun i => b.getD i false) j
  refine AW.skip ?_
  refine hK5 _ _ _ ?_; clear hK5
  refine AW.seq fun K7 hK7 => ?_
  refine AW.block ?_
  refine AW.seq fun K8 hK8 => ?_
  refine AW.regionK 0 (fun ii => if ii = 2 then some (.reads false (.bool (b.getD j false))) else none) [1, 3, 4, 13] [1] ?_
  simp only [go_sem, reduceIte, reduceCtorEq, zA, zM, zE, zL, zD, zS, zP, zB, zI, zR]
  repeat with_reducible refine cj ?_ ?_
  all_goals try first | (exact hh) | omega | exact ent (by kernel_rfl)
  refine hK8 _ _ _ ?_; clear hK8
  refine AW.cond rfl (by simp only [go_sem, reduceIte, reduceCtorEq, zA, zM, zE, zL, zD, zS, zP, zB, zI, zR]) ?_ ?_
  ·intro hb
   try simp only [hB, decide_eq_true_eq, decide_eq_false_iff_not] at hb
   rw [if_pos hb] at hsu
   refine AW.regionK 0 (fun _ => none) [1, 3, 4] [1] ?_
   simp only [go_sem, reduceIte, reduceCtorEq, zA, zM, zE, zL, zD, zS, zP, zB, zI, zR]
   repeat with_reducible refine cj ?_ ?_
   all_goals try first | omega
   refine hK7 _ _ _ ?_; clear hK7
   refine AW.regionK 0 (fun _ => none) [1, 3, 4] [1] ?_
   simp only [go_sem, reduceIte, reduceCtorEq, zA, zM, zE, zL, zD, zS, zP, zB, zI, zR]
   repeat with_reducible refine cj ?_ ?_
   all_goals try first | omega
   rw [← hQl1]
   change Exists _
   refine ⟨_, ?hm, j + 1, ?_, ?_, rfl, ?henv, ?hstore, ?hst⟩
   case henv =>
    repeat' (first | rfl | refine yab ?_ ?_ | refine yad ?_ ?_ ?_ ?_ | refine yag ?_ | refine yae ?_ | refine yah ?_ | refine yai ?_ | refine yan ?_ ?_ ?_ | refine yaj ?_ ?_ ?_ | refine yak ?_ | refine yaf ?_ ?_ | refine yac ?_ ?_)
    all_goals (first | (rw [hsu]; done) | (rw [hsu]; simp; done) | (simp; done) | omega)
   case hstore =>
    repeat' (first | rfl | refine yab ?_ ?_ | refine yad ?_ ?_ ?_ ?_ | refine yag ?_ | refine yae ?_ | refine yah ?_ | refine yai ?_ | refine yan ?_ ?_ ?_ | refine yaj ?_ ?_ ?_ | refine yak ?_ | refine yaf ?_ ?_ | refine yac ?_ ?_)
    all_goals (first | (simp; done) | omega | (simp; omega))
   case hst =>
    first | trivial | omega | (simp; done) | (simp; omega)
   case hm => omega
  ·intro hb
   try simp only [hB, decide_eq_true_eq, decide_eq_false_iff_not] at hb
   rw [if_neg (by rw [hb]; simp)] at hsu
   refine AW.skip ?_
   refine hK7 _ _ _ ?_; clear hK7
   refine AW.regionK 0 (fun _ => none) [1, 3, 4] [1] ?_
   simp only [go_sem, reduceIte, reduceCtorEq, zA, zM, zE, zL, zD, zS, zP, zB, zI, zR]
   repeat with_reducible refine cj ?_ ?_
   all_goals try first | omega
   rw [← hQl1]
   change Exists _
   refine ⟨_, ?hm, j + 1, ?_, ?_, rfl, ?henv, ?hstore, ?hst⟩
   case henv =>
    repeat' (first | rfl | refine yab ?_ ?_ | refine yad ?_ ?_ ?_ ?_ | refine yag ?_ | refine yae ?_ | refine yah ?_ | refine yai ?_ | refine yan ?_ ?_ ?_ | refine yaj ?_ ?_ ?_ | refine yak ?_ | refine yaf ?_ ?_ | refine yac ?_ ?_)
    all_goals (first | (rw [hsu]; done) | (rw [hsu]; simp; done) | (simp; done) | omega)
   case hstore =>
    repeat' (first | rfl | refine yab ?_ ?_ | refine yad ?_ ?_ ?_ ?_ | refine yag ?_ | refine yae ?_ | refine yah ?_ | refine yai ?_ | refine yan ?_ ?_ ?_ | refine yaj ?_ ?_ ?_ | refine yak ?_ | refine yaf ?_ ?_ | refine yac ?_ ?_)
    all_goals (first | (simp; done) | omega | (simp; omega))
   case hst =>
    first | trivial | omega | (simp; done) | (simp; omega)
   case hm => omega
 ·intro hb
  try simp only [hB, decide_eq_true_eq, decide_eq_false_iff_not] at hb
  refine AW.keep [3] [] ?_
  try simp only [go_sem, reduceIte, reduceCtorEq, zA, zM, zE, zL, zD, zS, zP, zB, zI, zR]
  refine AW.exit ?_
  rw [← hQl1]
  refine hK3 _ _ _ ?_; clear hK3
  refine AW.seq fun K9 hK9 => ?_
  refine AW.regionK 0 (fun _ => none) [2] [] ?_
  simp only [go_sem, reduceIte, reduceCtorEq, zA, zM, zE, zL, zD, zS, zP, zB, zI, zR]
  repeat with_reducible refine cj ?_ ?_
  all_goals try first | omega
  refine hK9 _ _ _ ?_; clear hK9
  refine AW.ret ?_
  rw [← hQr]
  simp only [go_sem, reduceIte, reduceCtorEq, zA, zM, zE, zL, zD, zS, zP, zB, zI, zR]
  have hj : j = b.length := by omega
  subst hj
  exact Wk.of_eq (by rw [hmb])
def frI (t : List (List Bool)) (b : List Bool) (i k : Nat) : Bool := (List.range k).all fun j => !(b.getD i false && b.getD j false && atT t i j)
def frU (t : List (List Bool)) (b : List Bool) (n i : Nat) : Bool := (List.range i).all fun i => frI t b i n
theorem yqc {t : List (List Bool)} {b : List Bool} {n : Nat} (hb : b.length = n) : frU t b n n = antiB t b := by
 have h : frU t b n n = true ↔ antiB t b = true := by
  unfold frU frI antiB yor
  simp only [List.all_eq_true, List.mem_range]
  constructor
  ·intro h i hi j hj
   have h1 := memB_mem.1 hi
   have h2 := memB_mem.1 hj
   have := h i (by omega) j (by omega)
   rw [h1.2, h2.2] at this
   simpa using this
  ·intro h i hi j hj
   cases hbi : b.getD i false with
   | false => rfl
   | true =>
    cases hbj : b.getD j false with
    | false => rfl
    | true =>
     have := h i (memB_mem.2 ⟨by omega, hbi⟩) j (memB_mem.2 ⟨by omega, hbj⟩)
     simpa using this
 cases h1 : frU t b n n <;> cases h2 : antiB t b <;> simp_all
theorem ranti_f (n : Nat) (t : List (List Bool)) (hs : Sq n t) (hn : n ≤ 512) (N : Int) (W : List Int) (hW : W.length ≤ 9223372036854775807) (hbad : (decide (N = n) && ybg n W) = false) : Reads Tryd.prog 21 false [.rsl 1 (ydn t), .agg [.int .i64 N, .rsl 1 (words W)]] (.bool false) := by
 have hf := R.formed_r N n W hW (by omega) (by omega)
 rw [hbad] at hf
 have hrl := yei t
 have hlen := hs.len
 refine Reads.body (rs := [.tmp 4]) Tryd.func21 rfl Tryd.ntmps21 rfl (by simp) ?_
 generalize hQr : retQ _ _ _ = Qr
 refine AW.seq fun K1 hK1 => ?_
 refine AW.regionK 0 (fun _ => none) [0, 3] [3] ?_
 simp only [go_sem, reduceIte, reduceCtorEq, zA, zM, zE, zL, zD, zS, zP, zB, zI, zR, hrl, hlen]
 repeat with_reducible refine cj ?_ ?_
 all_goals try first | omega
 refine hK1 _ _ _ ?_; clear hK1
 refine AW.seq fun K2 hK2 => ?_
 refine AW.regionK 0 (fun _ => none) [0, 3, 5] [3] ?_
 simp only [go_sem, reduceIte, reduceCtorEq, zA, zM, zE, zL, zD, zS, zP, zB, zI, zR, hrl, hlen]
 repeat with_reducible refine cj ?_ ?_
 all_goals try first | omega
 refine hK2 _ _ _ ?_; clear hK2
 refine AW.seq fun K3 hK3 => ?_
 refine AW.seq fun K4 hK4 => ?_
 refine AW.regionK 0 (fun ii => if ii = 2 then some (.reads false (.bool false)) else none) [0, 3, 5, 13] [3] ?_
 simp only [go_sem, reduceIte, reduceCtorEq, zA, zM, zE, zL, zD, zS, zP, zB, zI, zR, hrl, hlen]
 repeat with_reducible refine cj ?_ ?_
 all_goals try first | (exact hf) | omega | exact ent (by kernel_rfl)
 refine hK4 _ _ _ ?_; clear hK4
 refine AW.cond rfl (by simp only [go_sem, reduceIte, reduceCtorEq, zA, zM, zE, zL, zD, zS, zP, zB, zI, zR]) ?_ ?_
 ·intro hb
  try simp only [hB, decide_eq_true_eq, decide_eq_false_iff_not] at hb
  refine AW.seq fun K5 hK5 => ?_
  refine AW.regionK 0 (fun _ => none) [4] [] ?_
  simp only [go_sem, reduceIte, reduceCtorEq, zA, zM, zE, zL, zD, zS, zP, zB, zI, zR, hrl, hlen]
  repeat with_reducible refine cj ?_ ?_
  all_goals try first | omega
  refine hK5 _ _ _ ?_; clear hK5
  refine AW.ret ?_
  rw [← hQr]
  simp only [go_sem, reduceIte, reduceCtorEq, zA, zM, zE, zL, zD, zS, zP, zB, zI, zR, hrl, hlen]
  exact Wk.refl _
 ·intro hb
  try simp only [hB, decide_eq_true_eq, decide_eq_false_iff_not] at hb
  exfalso; simp at hb
theorem yr5 (n : Nat) (t : List (List Bool)) (hs : Sq n t) (hn : n ≤ 512) (b : List Bool) (hb0 : b.length = n) : Reads Tryd.prog 21 false [.rsl 1 (ydn t), .agg [.int .i64 n, .rsl 1 (words (setW b n))]] (.bool (antiB t b)) := by
 have hwl := yez (b := b) (by omega)
 have vb := yb8 (b := b) (by omega)
 have hhr := yr3 b (by omega)
 rw [hb0] at vb hwl hhr
 have hf := R.formed_r n n (setW b n) (by omega) (by omega) (by omega)
 rw [vb] at hf
 simp only [decide_true, Bool.and_true] at hf
 have hrl := yei t
 have hlen := hs.len
 have hfa := yqc (t := t) hb0
 generalize setW b n = W at *
 refine Reads.body (rs := [.tmp 4]) Tryd.func21 rfl Tryd.ntmps21 rfl (by simp) ?_
 generalize hQr : retQ _ _ _ = Qr
 refine AW.seq fun K1 hK1 => ?_
 refine AW.regionK 0 (fun _ => none) [0, 3] [3] ?_
 simp only [go_sem, reduceIte, reduceCtorEq, zA, zM, zE, zL, zD, zS, zP, zB, zI, zR, hrl, hlen, yal]
 repeat with_reducible refine cj ?_ ?_
 all_goals try first | omega
 refine hK1 _ _ _ ?_; clear hK1
 refine AW.seq fun K2 hK2 => ?_
 refine AW.regionK 0 (fun _ => none) [0, 3, 5] [3] ?_
 simp only [go_sem, reduceIte, reduceCtorEq, zA, zM, zE, zL, zD, zS, zP, zB, zI, zR, hrl, hlen, yal]
 repeat with_reducible refine cj ?_ ?_
 all_goals try first | omega
 refine hK2 _ _ _ ?_; clear hK2
 refine AW.seq fun K3 hK3 => ?_
 refine AW.seq fun K4 hK4 => ?_
 refine AW.regionK 0 (fun ii => if ii = 2 then some (.reads false (.bool true)) else none) [0, 3, 5, 13] [3] ?_
 simp only [go_sem, reduceIte, reduceCtorEq, zA, zM, zE, zL, zD, zS, zP, zB, zI, zR, hrl, hlen, yal]
 repeat with_reducible refine cj ?_ ?_
 all_goals try first | (exact hf) | omega | exact ent (by kernel_rfl)
 refine hK4 _ _ _ ?_; clear hK4
 refine AW.cond rfl (by simp only [go_sem, reduceIte, reduceCtorEq, zA, zM, zE, zL, zD, zS, zP, zB, zI, zR]) ?_ ?_
 ·intro hb
  try simp only [hB, decide_eq_true_eq, decide_eq_false_iff_not] at hb
  exfalso; simp at hb
 ·intro hb
  try simp only [hB, decide_eq_true_eq, decide_eq_false_iff_not] at hb
  refine AW.skip ?_
  refine hK3 _ _ _ ?_; clear hK3
  refine AW.seq fun K5 hK5 => ?_
  refine AW.seq fun K6 hK6 => ?_
  refine AW.regionK 0 (fun _ => none) [0, 3, 5, 6] [3] ?_
  simp only [go_sem, reduceIte, reduceCtorEq, zA, zM, zE, zL, zD, zS, zP, zB, zI, zR, hrl, hlen, yal]
  repeat with_reducible refine cj ?_ ?_
  all_goals try first | omega
  refine hK6 _ _ _ ?_; clear hK6
  refine AW.block ?_
  refine AW.loopE (fun mm ee ss kk => ∃ (i g v : Nat), n - i = mm ∧ ee = [(0, .rsl 1 (ydn t)), (3, .ptr ⟨3, g, none⟩ 0 0), (5, .int .i64 n), (6, .int .i64 (i : Nat))] ∧ ss = [(3, some ⟨g, v, 2, [[.int .i64 n, .rsl 1 (words W)]]⟩)] ∧ (i ≤ n ∧ frU t b n i = true)) ?_ ?_
  ·refine ⟨_, 0, ?_, ?_, rfl, ?henv, ?hstore, ?hst⟩
   case henv =>
    repeat' (first | rfl | refine yab ?_ ?_ | refine yad ?_ ?_ ?_ ?_ | refine yag ?_ | refine yae ?_ | refine yah ?_ | refine yai ?_ | refine yan ?_ ?_ ?_ | refine yaj ?_ ?_ ?_ | refine yak ?_ | refine yaf ?_ ?_ | refine yac ?_ ?_)
    all_goals (first | (simp; done) | omega | (simp; omega))
   case hstore =>
    repeat' (first | rfl | refine yab ?_ ?_ | refine yad ?_ ?_ ?_ ?_ | refine yag ?_ | refine yae ?_ | refine yah ?_ | refine yai ?_ | refine yan ?_ ?_ ?_ | refine yaj ?_ ?_ ?_ | refine yak ?_ | refine yaf ?_ ?_ | refine yac ?_ ?_)
    all_goals (first | (simp; done) | omega | (simp; omega))
   case hst =>
    exact ⟨by omega, rfl⟩
  rintro mm ee ss kk ⟨i, g, v, rfl, rfl, rfl, hI⟩
  generalize hQl1 : ybb _ _ = Ql1
  obtain ⟨hi, hfu⟩ := hI
  refine AW.seq fun K7 hK7 => ?_
  refine AW.seq fun K8 hK8 => ?_
  refine AW.regionK 0 (fun _ => none) [0, 3, 5, 6, 16] [3] ?_
  simp only [go_sem, reduceIte, reduceCtorEq, zA, zM, zE, zL, zD, zS, zP, zB, zI, zR, hrl, hlen, yal]
  repeat with_reducible refine cj ?_ ?_
  all_goals try first | omega
  refine hK8 _ _ _ ?_; clear hK8
  refine AW.cond rfl (by simp only [go_sem, reduceIte, reduceCtorEq, zA, zM, zE, zL, zD, zS, zP, zB, zI, zR]) ?_ ?_
  ·intro hb
   try simp only [hB, decide_eq_true_eq, decide_eq_false_iff_not] at hb
   have hsu : frU t b n (i + 1) = (frU t b n i && frI t b i n) := by unfold frU; rw [List.range_succ, List.all_append]; simp
   have hh1 := hhr (i : Int) (by omega) (by omega)
   rw [Int.toNat_natCast] at hh1
   have hgr := yfs (t := t) (i := i) (by omega)
   have hrw := hs.rowLen (i := i) (by omega)
   refine AW.skip ?_
   refine hK7 _ _ _ ?_; clear hK7
   refine AW.seq fun K9 hK9 => ?_
   refine AW.block ?_
   refine AW.seq fun K10 hK10 => ?_
   refine AW.regionK 0 (fun _ => none) [0, 3, 5, 6, 7] [3] ?_
   simp only [go_sem, reduceIte, reduceCtorEq, zA, zM, zE, zL, zD, zS, zP, zB, zI, zR, hrl, hlen, yal]
   repeat with_reducible refine cj ?_ ?_
   all_goals try first | omega
   refine hK10 _ _ _ ?_; clear hK10
   refine AW.block ?_
   refine AW.loopE (fun mm ee ss kk => ∃ (j g v : Nat), n - j = mm ∧ ee = [(0, .rsl 1 (ydn t)), (3, .ptr ⟨3, g, none⟩ 0 0), (5, .int .i64 n), (6, .int .i64 (i : Nat)), (7, .int .i64 (j : Nat))] ∧ ss = [(3, some ⟨g, v, 2, [[.int .i64 n, .rsl 1 (words W)]]⟩)] ∧ (j ≤ n ∧ frI t b i j = true)) ?_ ?_
   ·refine ⟨_, 0, ?_, ?_, rfl, ?henv, ?hstore, ?hst⟩
    case henv =>
     repeat' (first | rfl | refine yab ?_ ?_ | refine yad ?_ ?_ ?_ ?_ | refine yag ?_ | refine yae ?_ | refine yah ?_ | refine yai ?_ | refine yan ?_ ?_ ?_ | refine yaj ?_ ?_ ?_ | refine yak ?_ | refine yaf ?_ ?_ | refine yac ?_ ?_)
     all_goals (first | (simp; done) | omega | (simp; omega))
    case hstore =>
     repeat' (first | rfl | refine yab ?_ ?_ | refine yad ?_ ?_ ?_ ?_ | refine yag ?_ | refine yae ?_ | refine yah ?_ | refine yai ?_ | refine yan ?_ ?_ ?_ | refine yaj ?_ ?_ ?_ | refine yak ?_ | refine yaf ?_ ?_ | refine yac ?_ ?_)
     all_goals (first | (simp; done) | omega | (simp; omega))
    case hst =>
     exact ⟨by omega, rfl⟩
   rintro mm ee ss kk ⟨j, g, v, rfl, rfl, rfl, hI⟩
   generalize hQl2 : ybb _ _ = Ql2
   obtain ⟨hj, hfi⟩ := hI
   refine AW.seq fun K11 hK11 => ?_
   refine AW.seq fun K12 hK12 => ?_
   refine AW.regionK 0 (fun _ => none) [0, 3, 5, 6, 7, 21] [3] ?_
   simp only [go_sem, reduceIte, reduceCtorEq, zA, zM, zE, zL, zD, zS, zP, zB, zI, zR, hrl, hlen, yal]
   repeat with_reducible refine cj ?_ ?_
   all_goals try first | omega
   refine hK12 _ _ _ ?_; clear hK12
   refine AW.cond rfl (by simp only [go_sem, reduceIte, reduceCtorEq, zA, zM, zE, zL, zD, zS, zP, zB, zI, zR]) ?_ ?_
   ·intro hb
    try simp only [hB, decide_eq_true_eq, decide_eq_false_iff_not] at hb
    have hh2 := hhr (j : Int) (by omega) (by omega)
    rw [Int.toNat_natCast] at hh2
    have hgb := ybr (l := rowT t i) (i := j) (by omega)
    have hat : atT t i j = (rowT t i).getD j false := rfl
    rw [← hat] at hgb
    have hsi : frI t b i (j + 1) = (frI t b i j && !(b.getD i false && b.getD j false && atT t i j)) := by unfold frI; rw [List.range_succ, List.all_append]; simp
    refine AW.skip ?_
    refine hK11 _ _ _ ?_; clear hK11
    refine AW.seq fun K13 hK13 => ?_
    refine AW.block ?_
    refine AW.seq fun K14 hK14 => ?_
    refine AW.regionK 0 (fun ii => if ii = 2 then some (.reads false (.bool (b.getD i false))) else if ii = 6 then some (.reads false (.bool (b.getD j false))) else none) [0, 3, 5, 6, 7, 40] [3] ?_
    simp only [go_sem, reduceIte, reduceCtorEq, zA, zM, zE, zL, zD, zS, zP, zB, zI, zR, hrl, hlen, yal, hgr, hgb, hrw]
    repeat with_reducible refine cj ?_ ?_
    all_goals try first | (first | exact hh1 | exact hh2 | (intro hh; (repeat' apply And.intro) <;> first | exact hh | exact hh2 | omega)) | (intros; (repeat' apply And.intro) <;> first | assumption | (first | exact hh1 | exact hh2 | (intro hh; (repeat' apply And.intro) <;> first | exact hh | exact hh2 | omega))) | omega | exact ent (by kernel_rfl) | (intro hgd; exact absurd hgd (by decide)) | rfl | (simp only [go_sem, reduceIte, reduceCtorEq, zA, zM, zE, zL, zD, zS, zP, zB, zI, zR, hrl, hlen, yal, hgr, hgb, hrw]; done) | (intro _hgd; simp_all [go_sem]; done)
    refine hK14 _ _ _ ?_; clear hK14
    refine AW.cond rfl (by simp only [go_sem, reduceIte, reduceCtorEq, zA, zM, zE, zL, zD, zS, zP, zB, zI, zR]) ?_ ?_
    ·intro hb
     try simp only [hB, decide_eq_true_eq, decide_eq_false_iff_not] at hb
     refine AW.seq fun K15 hK15 => ?_
     refine AW.regionK 0 (fun _ => none) [4] [] ?_
     simp only [go_sem, reduceIte, reduceCtorEq, zA, zM, zE, zL, zD, zS, zP, zB, zI, zR, hrl, hlen, yal]
     repeat with_reducible refine cj ?_ ?_
     all_goals try first | omega
     refine hK15 _ _ _ ?_; clear hK15
     refine AW.ret ?_
     rw [← hQl2]
     rw [← hQl1]
     rw [← hQr]
     simp only [go_sem, reduceIte, reduceCtorEq, zA, zM, zE, zL, zD, zS, zP, zB, zI, zR, hrl, hlen, yal]
     have hf2 : frU t b n n = false := by
      unfold frU
      rw [List.all_eq_false]
      refine ⟨i, List.mem_range.2 (by omega), ?_⟩
      have : frI t b i n = false := by
       unfold frI
       rw [List.all_eq_false]
       refine ⟨j, List.mem_range.2 (by omega), ?_⟩
       obtain ⟨⟨q1, q2⟩, q3⟩ := hb
       rw [q1, q2, q3]; simp
      rw [this]; simp
     exact Wk.of_eq (by rw [← hfa, hf2])
    ·intro hb
     try simp only [hB, decide_eq_true_eq, decide_eq_false_iff_not] at hb
     refine AW.skip ?_
     refine hK13 _ _ _ ?_; clear hK13
     refine AW.regionK 0 (fun _ => none) [0, 3, 5, 6, 7] [3] ?_
     simp only [go_sem, reduceIte, reduceCtorEq, zA, zM, zE, zL, zD, zS, zP, zB, zI, zR, hrl, hlen, yal]
     repeat with_reducible refine cj ?_ ?_
     all_goals try first | omega
     rw [← hQl2]
     change Exists _
     refine ⟨_, ?hm, j + 1, ?_, ?_, rfl, ?henv, ?hstore, ?hst⟩
     case henv =>
      repeat' (first | rfl | refine yab ?_ ?_ | refine yad ?_ ?_ ?_ ?_ | refine yag ?_ | refine yae ?_ | refine yah ?_ | refine yai ?_ | refine yan ?_ ?_ ?_ | refine yaj ?_ ?_ ?_ | refine yak ?_ | refine yaf ?_ ?_ | refine yac ?_ ?_)
      all_goals (first | (simp; done) | omega | (simp; omega))
     case hstore =>
      repeat' (first | rfl | refine yab ?_ ?_ | refine yad ?_ ?_ ?_ ?_ | refine yag ?_ | refine yae ?_ | refine yah ?_ | refine yai ?_ | refine yan ?_ ?_ ?_ | refine yaj ?_ ?_ ?_ | refine yak ?_ | refine yaf ?_ ?_ | refine yac ?_ ?_)
      all_goals (first | (simp; done) | omega | (simp; omega))
     case hst =>
      exact ⟨by omega, by rw [hsi, hfi]; revert hb; cases b.getD i false <;> cases b.getD j false <;> cases atT t i j <;> simp⟩
     case hm => omega
   ·intro hb
    try simp only [hB, decide_eq_true_eq, decide_eq_false_iff_not] at hb
    have hj2 : j = n := by omega
    rw [hj2] at hfi
    refine AW.keep [0, 3, 5, 6] [3] ?_
    try simp only [go_sem, reduceIte, reduceCtorEq, zA, zM, zE, zL, zD, zS, zP, zB, zI, zR]
    refine AW.exit ?_
    rw [← hQl2]
    refine hK9 _ _ _ ?_; clear hK9
    refine AW.regionK 0 (fun _ => none) [0, 3, 5, 6] [3] ?_
    simp only [go_sem, reduceIte, reduceCtorEq, zA, zM, zE, zL, zD, zS, zP, zB, zI, zR, hrl, hlen, yal]
    repeat with_reducible refine cj ?_ ?_
    all_goals try first | omega
    rw [← hQl1]
    change Exists _
    refine ⟨_, ?hm, i + 1, ?_, ?_, rfl, ?henv, ?hstore, ?hst⟩
    case henv =>
     repeat' (first | rfl | refine yab ?_ ?_ | refine yad ?_ ?_ ?_ ?_ | refine yag ?_ | refine yae ?_ | refine yah ?_ | refine yai ?_ | refine yan ?_ ?_ ?_ | refine yaj ?_ ?_ ?_ | refine yak ?_ | refine yaf ?_ ?_ | refine yac ?_ ?_)
     all_goals (first | (simp; done) | omega | (simp; omega))
    case hstore =>
     repeat' (first | rfl | refine yab ?_ ?_ | refine yad ?_ ?_ ?_ ?_ | refine yag ?_ | refine yae ?_ | refine yah ?_ | refine yai ?_ | refine yan ?_ ?_ ?_ | refine yaj ?_ ?_ ?_ | refine yak ?_ | refine yaf ?_ ?_ | refine yac ?_ ?_)
     all_goals (first | (simp; done) | omega | (simp; omega))
    case hst =>
     exact ⟨by omega, by rw [hsu, hfu, hfi]; rfl⟩
    case hm => omega
  ·intro hb
   try simp only [hB, decide_eq_true_eq, decide_eq_false_iff_not] at hb
   refine AW.keep [] [] ?_
   try simp only [go_sem, reduceIte, reduceCtorEq, zA, zM, zE, zL, zD, zS, zP, zB, zI, zR]
   refine AW.exit ?_
   rw [← hQl1]
   refine hK5 _ _ _ ?_; clear hK5
   refine AW.seq fun K16 hK16 => ?_
   refine AW.regionK 0 (fun _ => none) [4] [] ?_
   simp only [go_sem, reduceIte, reduceCtorEq, zA, zM, zE, zL, zD, zS, zP, zB, zI, zR, hrl, hlen, yal]
   repeat with_reducible refine cj ?_ ?_
   all_goals try first | omega
   refine hK16 _ _ _ ?_; clear hK16
   refine AW.ret ?_
   rw [← hQr]
   simp only [go_sem, reduceIte, reduceCtorEq, zA, zM, zE, zL, zD, zS, zP, zB, zI, zR, hrl, hlen, yal]
   have hi2 : i = n := by omega
   rw [hi2] at hfu
   exact Wk.of_eq (by rw [← hfa, hfu])
theorem rchain_r (n : Nat) (t : List (List Bool)) (hs : Sq n t) (hn : n ≤ 512) (l : List Int) (hll : l.length ≤ 9223372036854775807) : Reads Tryd.prog 22 false [.rsl 1 (ydn t), .rsl 1 (ints l)] (.bool (chainB n t l)) := by
 have hrl := yei t
 have hlen := hs.len
 refine Reads.body (rs := [.tmp 4]) Tryd.func22 rfl Tryd.ntmps22 rfl (by simp) ?_
 generalize hQr : retQ _ _ _ = Qr
 refine AW.seq fun K1 hK1 => ?_
 refine AW.regionK 0 (fun _ => none) [0, 1] [] ?_
 simp only [go_sem, reduceIte, reduceCtorEq, zA, zM, zE, zL, zD, zS, zP, zB, zI, zR, hrl, hlen, yaa, yal]
 repeat with_reducible refine cj ?_ ?_
 all_goals try first | omega
 refine hK1 _ _ _ ?_; clear hK1
 refine AW.seq fun K2 hK2 => ?_
 refine AW.seq fun K3 hK3 => ?_
 refine AW.regionK 0 (fun _ => none) [0, 1, 5] [] ?_
 simp only [go_sem, reduceIte, reduceCtorEq, zA, zM, zE, zL, zD, zS, zP, zB, zI, zR, hrl, hlen, yaa, yal]
 repeat with_reducible refine cj ?_ ?_
 all_goals try first | omega
 refine hK3 _ _ _ ?_; clear hK3
 refine AW.block ?_
 refine AW.loopE (fun mm ee ss kk => ∃ (j : Nat), l.length - j = mm ∧ ee = [(0, .rsl 1 (ydn t)), (1, .rsl 1 (ints l)), (5, .int .i64 (j : Nat))] ∧ ss = [] ∧ (j ≤ l.length ∧ (l.take j).any (outB n) = false ∧ yfb n t l j = true)) ?_ ?_
 ·refine ⟨_, 0, rfl, ?henv, ?hstore, ?hst⟩
  case henv =>
   repeat' (first | rfl | refine yab ?_ ?_ | refine yad ?_ ?_ ?_ ?_ | refine yag ?_ | refine yae ?_ | refine yah ?_ | refine yai ?_ | refine yan ?_ ?_ ?_ | refine yaj ?_ ?_ ?_ | refine yak ?_ | refine yaf ?_ ?_ | refine yac ?_ ?_)
   all_goals (first | (simp; done) | omega | (simp; omega))
  case hstore =>
   repeat' (first | rfl | refine yab ?_ ?_ | refine yad ?_ ?_ ?_ ?_ | refine yag ?_ | refine yae ?_ | refine yah ?_ | refine yai ?_ | refine yan ?_ ?_ ?_ | refine yaj ?_ ?_ ?_ | refine yak ?_ | refine yaf ?_ ?_ | refine yac ?_ ?_)
   all_goals (first | (simp; done) | omega | (simp; omega))
  case hst =>
   exact ⟨by omega, by simp, rfl⟩
 rintro mm ee ss kk ⟨j, rfl, rfl, rfl, hI⟩
 generalize hQl1 : ybb _ _ = Ql1
 obtain ⟨hj, hno, hst⟩ := hI
 refine AW.seq fun K4 hK4 => ?_
 refine AW.seq fun K5 hK5 => ?_
 refine AW.regionK 0 (fun _ => none) [0, 1, 5, 9] [] ?_
 simp only [go_sem, reduceIte, reduceCtorEq, zA, zM, zE, zL, zD, zS, zP, zB, zI, zR, hrl, hlen, yaa, yal]
 repeat with_reducible refine cj ?_ ?_
 all_goals try first | omega
 refine hK5 _ _ _ ?_; clear hK5
 refine AW.cond rfl (by simp only [go_sem, reduceIte, reduceCtorEq, zA, zM, zE, zL, zD, zS, zP, zB, zI, zR]) ?_ ?_
 ·intro hb
  try simp only [hB, decide_eq_true_eq, decide_eq_false_iff_not] at hb
  obtain ⟨x, hx⟩ := getI (l := l) (j := j) (by omega)
  have hgx := ych hx
  have hats := yb2 (p := outB n) hx
  have hss := yg3 n t l j
  rw [hst, Bool.true_and] at hss
  have hxd : l.getD j 0 = x := yrc hx 0
  rw [hxd] at hss
  have e1 : ((j : Int) - 1).toNat = j - 1 := by omega
  refine AW.skip ?_
  refine hK4 _ _ _ ?_; clear hK4
  refine AW.seq fun K6 hK6 => ?_
  refine AW.block ?_
  refine AW.seq fun K7 hK7 => ?_
  refine AW.seq fun K8 hK8 => ?_
  refine AW.regionK 0 (fun _ => none) [0, 1, 5, 25] [] ?_
  simp only [go_sem, reduceIte, reduceCtorEq, zA, zM, zE, zL, zD, zS, zP, zB, zI, zR, hrl, hlen, yaa, yal, hgx]
  repeat with_reducible refine cj ?_ ?_
  all_goals try first | omega | (intros; (repeat' apply And.intro) <;> first | assumption | omega | decide) | (intro hgd; exact absurd hgd (by decide)) | rfl | (simp only [go_sem, reduceIte, reduceCtorEq, zA, zM, zE, zL, zD, zS, zP, zB, zI, zR, hrl, hlen, yaa, yal, hgx]; done) | (intro _hgd; simp_all [go_sem]; done)
  refine hK8 _ _ _ ?_; clear hK8
  refine AW.cond rfl (by simp only [go_sem, reduceIte, reduceCtorEq, zA, zM, zE, zL, zD, zS, zP, zB, zI, zR]) ?_ ?_
  ·intro hb
   try simp only [hB, decide_eq_true_eq, decide_eq_false_iff_not] at hb
   refine AW.seq fun K9 hK9 => ?_
   refine AW.regionK 0 (fun _ => none) [4] [] ?_
   simp only [go_sem, reduceIte, reduceCtorEq, zA, zM, zE, zL, zD, zS, zP, zB, zI, zR, hrl, hlen, yaa, yal]
   repeat with_reducible refine cj ?_ ?_
   all_goals try first | omega
   refine hK9 _ _ _ ?_; clear hK9
   refine AW.ret ?_
   rw [← hQl1]
   rw [← hQr]
   simp only [go_sem, reduceIte, reduceCtorEq, zA, zM, zE, zL, zD, zS, zP, zB, zI, zR, hrl, hlen, yaa, yal]
   have hf : l.any (outB n) = true := by
    rw [List.any_eq_true]
    exact ⟨x, List.mem_of_getElem? hx, by unfold outB; rcases hb with h | h <;> simp <;> omega⟩
   exact Wk.of_eq (by unfold chainB; rw [hf]; rfl)
  ·intro hb
   try simp only [hB, decide_eq_true_eq, decide_eq_false_iff_not] at hb
   have hxr : 0 ≤ x ∧ x < (n : Int) := by omega
   have hox : outB n x = false := by unfold outB; simp; omega
   have hg0 : (ints l).getD (j - 1) [] = [.int .i64 (l.getD (j - 1) 0)] := ybo (by omega)
   have hy : 0 ≤ l.getD (j - 1) 0 ∧ l.getD (j - 1) 0 < (n : Int) := by
    by_cases h1 : j = 0
    ·subst h1; rw [show (0 : Nat) - 1 = 0 from rfl, hxd]; exact hxr
    ·rw [List.any_eq_false] at hno
     have hm : l.getD (j - 1) 0 ∈ l.take j := by
      rw [List.mem_take_iff_getElem]
      refine ⟨j - 1, by omega, ?_⟩
      rw [List.getD_eq_getElem?_getD, List.getElem?_eq_getElem (by omega)]; rfl
     have := hno _ hm
     unfold outB at this; simp only [Bool.or_eq_true, decide_eq_true_eq, not_or] at this; omega
   generalize hY : l.getD (j - 1) 0 = y at *
   have hgy := yfs (t := t) (i := y.toNat) (by omega)
   have hrw := hs.rowLen (i := y.toNat) (by omega)
   have hgb := ybr (l := rowT t y.toNat) (i := x.toNat) (by omega)
   have hat : atT t y.toNat x.toNat = (rowT t y.toNat).getD x.toNat false := rfl
   rw [← hat] at hgb
   have hlb : yjd n t y x = atT t y.toNat x.toNat := by unfold yjd; rw [decide_eq_true hy.1, decide_eq_true hy.2, decide_eq_true hxr.1, decide_eq_true hxr.2]; rfl
   rw [hlb] at hss
   refine AW.skip ?_
   refine hK7 _ _ _ ?_; clear hK7
   refine AW.seq fun K10 hK10 => ?_
   refine AW.regionD yd2 0 (fun _ => none) [0, 1, 5, 44] [] ?_
   simp only [go_sem, reduceIte, reduceCtorEq, zA, zM, zE, zL, zD, zS, zP, zB, zI, zR, hrl, hlen, yaa, yal, e1, hg0, hgx, hgy, hgb, hrw]
   repeat with_reducible refine cj ?_ ?_
   all_goals try first | ((intro hh; have hq := of_decide_eq_true hh; (repeat' apply And.intro) <;> first | exact hh | omega)) | (intros; (repeat' apply And.intro) <;> first | assumption | ((intro hh; have hq := of_decide_eq_true hh; (repeat' apply And.intro) <;> first | exact hh | omega))) | omega | exact chk (by kernel_rfl) | (intro hgd; exact absurd hgd (by decide)) | rfl | (simp only [go_sem, reduceIte, reduceCtorEq, zA, zM, zE, zL, zD, zS, zP, zB, zI, zR, hrl, hlen, yaa, yal, e1, hg0, hgx, hgy, hgb, hrw]; done) | (intro _hgd; simp_all [go_sem]; done)
   refine hK10 _ _ _ ?_; clear hK10
   refine AW.cond rfl (by simp only [go_sem, reduceIte, reduceCtorEq, zA, zM, zE, zL, zD, zS, zP, zB, zI, zR]) ?_ ?_
   ·intro hb
    try simp only [hB, decide_eq_true_eq, decide_eq_false_iff_not] at hb
    refine AW.seq fun K11 hK11 => ?_
    refine AW.regionK 0 (fun _ => none) [4] [] ?_
    simp only [go_sem, reduceIte, reduceCtorEq, zA, zM, zE, zL, zD, zS, zP, zB, zI, zR, hrl, hlen, yaa, yal]
    repeat with_reducible refine cj ?_ ?_
    all_goals try first | omega
    refine hK11 _ _ _ ?_; clear hK11
    refine AW.ret ?_
    rw [← hQl1]
    rw [← hQr]
    simp only [go_sem, reduceIte, reduceCtorEq, zA, zM, zE, zL, zD, zS, zP, zB, zI, zR, hrl, hlen, yaa, yal]
    have hf : yfb n t l (j + 1) = false := by rw [hss, hb.2, decide_eq_false (by omega)]; rfl
    exact Wk.of_eq (by unfold chainB; rw [yi8 hf (by omega)]; simp)
   ·intro hb
    try simp only [hB, decide_eq_true_eq, decide_eq_false_iff_not] at hb
    refine AW.skip ?_
    refine hK6 _ _ _ ?_; clear hK6
    refine AW.regionK 0 (fun _ => none) [0, 1, 5] [] ?_
    simp only [go_sem, reduceIte, reduceCtorEq, zA, zM, zE, zL, zD, zS, zP, zB, zI, zR, hrl, hlen, yaa, yal]
    repeat with_reducible refine cj ?_ ?_
    all_goals try first | omega
    rw [← hQl1]
    change Exists _
    refine ⟨_, ?hm, j + 1, rfl, ?henv, ?hstore, ?hst⟩
    case henv =>
     repeat' (first | rfl | refine yab ?_ ?_ | refine yad ?_ ?_ ?_ ?_ | refine yag ?_ | refine yae ?_ | refine yah ?_ | refine yai ?_ | refine yan ?_ ?_ ?_ | refine yaj ?_ ?_ ?_ | refine yak ?_ | refine yaf ?_ ?_ | refine yac ?_ ?_)
     all_goals (first | (simp; done) | omega | (simp; omega))
    case hstore =>
     repeat' (first | rfl | refine yab ?_ ?_ | refine yad ?_ ?_ ?_ ?_ | refine yag ?_ | refine yae ?_ | refine yah ?_ | refine yai ?_ | refine yan ?_ ?_ ?_ | refine yaj ?_ ?_ ?_ | refine yak ?_ | refine yaf ?_ ?_ | refine yac ?_ ?_)
     all_goals (first | (simp; done) | omega | (simp; omega))
    case hst =>
     exact ⟨by omega, by rw [hats, hno, hox]; rfl, by rw [hss]; by_cases h : j = 0; simp [h]; rcases hb with hb | hb; omega; rw [hb]; simp⟩
    case hm => omega
 ·intro hb
  try simp only [hB, decide_eq_true_eq, decide_eq_false_iff_not] at hb
  have hj2 : j = l.length := by omega
  rw [hj2] at hst hno
  rw [List.take_length] at hno
  refine AW.keep [] [] ?_
  try simp only [go_sem, reduceIte, reduceCtorEq, zA, zM, zE, zL, zD, zS, zP, zB, zI, zR]
  refine AW.exit ?_
  rw [← hQl1]
  refine hK2 _ _ _ ?_; clear hK2
  refine AW.seq fun K12 hK12 => ?_
  refine AW.regionK 0 (fun _ => none) [4] [] ?_
  simp only [go_sem, reduceIte, reduceCtorEq, zA, zM, zE, zL, zD, zS, zP, zB, zI, zR, hrl, hlen, yaa, yal]
  repeat with_reducible refine cj ?_ ?_
  all_goals try first | omega
  refine hK12 _ _ _ ?_; clear hK12
  refine AW.ret ?_
  rw [← hQr]
  simp only [go_sem, reduceIte, reduceCtorEq, zA, zM, zE, zL, zD, zS, zP, zB, zI, zR, hrl, hlen, yaa, yal]
  exact Wk.of_eq (by unfold chainB; rw [hno, hst]; rfl)
end Go.Proofs.W

namespace Go.Proofs.W
open Go.AM Go
set_option maxRecDepth 100000
set_option maxHeartbeats 2000000
theorem yr6 (n : Nat) (t : List (List Bool)) (hs : Sq n t) (hn : n ≤ 512) (cs : List (List Int)) (hl : cs.length ≤ 100000) (hll : ∀ c ∈ cs, c.length ≤ 100000) : Reads Tryd.prog 23 false [.rsl 1 (ydn t), .rsl 1 (M.nbR cs)] (.bool (ye1 n t cs)) := by
 have hrl := yei t
 have hlen := hs.len
 have hic := fun c h => rchain_r n t hs hn c h
 have hnl := M.nbR_len cs
 have hz : List.replicate n [AV.bool false] = ya9 (rowL n []) := by rw [ypx]; simp [ya9]
 refine Reads.body (rs := [.tmp 4]) Tryd.func23 rfl Tryd.ntmps23 rfl (by simp) ?_
 generalize hQr : retQ _ _ _ = Qr
 refine AW.seq fun K1 hK1 => ?_
 refine AW.regionK 0 (fun _ => none) [0, 1] [] ?_
 simp only [go_sem, reduceIte, reduceCtorEq, zA, zM, zE, zL, zD, zS, zP, zB, zI, zR, hrl, hlen, hnl, yaa]
 repeat with_reducible refine cj ?_ ?_
 all_goals try first | omega
 refine hK1 _ _ _ ?_; clear hK1
 refine AW.seq fun K2 hK2 => ?_
 refine AW.regionK 0 (fun _ => none) [0, 1, 5] [11] ?_
 simp only [go_sem, reduceIte, reduceCtorEq, zA, zM, zE, zL, zD, zS, zP, zB, zI, zR, hrl, hlen, hnl, yaa, hz]
 repeat with_reducible refine cj ?_ ?_
 all_goals try first | omega
 refine hK2 _ _ _ ?_; clear hK2
 refine AW.seq fun K3 hK3 => ?_
 refine AW.regionK 0 (fun _ => none) [0, 1, 5, 6] [11] ?_
 simp only [go_sem, reduceIte, reduceCtorEq, zA, zM, zE, zL, zD, zS, zP, zB, zI, zR, hrl, hlen, hnl, yaa]
 repeat with_reducible refine cj ?_ ?_
 all_goals try first | omega
 refine hK3 _ _ _ ?_; clear hK3
 refine AW.seq fun K4 hK4 => ?_
 refine AW.seq fun K5 hK5 => ?_
 refine AW.regionK 0 (fun _ => none) [0, 1, 5, 6, 7] [11] ?_
 simp only [go_sem, reduceIte, reduceCtorEq, zA, zM, zE, zL, zD, zS, zP, zB, zI, zR, hrl, hlen, hnl, yaa]
 repeat with_reducible refine cj ?_ ?_
 all_goals try first | omega
 refine hK5 _ _ _ ?_; clear hK5
 refine AW.block ?_
 refine AW.loopE (fun mm ee ss kk => ∃ (j g7 v7 : Nat), cs.length - j = mm ∧ ee = [(0, .rsl 1 (ydn t)), (1, .rsl 1 (M.nbR cs)), (5, .sl ⟨11, g7, none⟩ 0 n none), (6, .int .i64 ((cs.take j).flatten.length : Nat)), (7, .int .i64 (j : Nat))] ∧ ss = [(11, some ⟨g7, v7, 1, ya9 (rowL n (cs.take j).flatten)⟩)] ∧ (j ≤ cs.length ∧ (cs.take j).all (okC n t) = true ∧ (cs.take j).flatten.Nodup ∧ ∀ x ∈ (cs.take j).flatten, 0 ≤ x ∧ x < (n : Int))) ?_ ?_
 ·refine ⟨_, 0, ?_, ?_, rfl, ?henv, ?hstore, ?hst⟩
  case henv =>
   repeat' (first | rfl | refine yab ?_ ?_ | refine yad ?_ ?_ ?_ ?_ | refine yag ?_ | refine yae ?_ | refine yah ?_ | refine yai ?_ | refine yan ?_ ?_ ?_ | refine yaj ?_ ?_ ?_ | refine yak ?_ | refine yaf ?_ ?_ | refine yac ?_ ?_)
   all_goals (first | (simp; done) | omega | (simp; omega))
  case hstore =>
   repeat' (first | rfl | refine yab ?_ ?_ | refine yad ?_ ?_ ?_ ?_ | refine yag ?_ | refine yae ?_ | refine yah ?_ | refine yai ?_ | refine yan ?_ ?_ ?_ | refine yaj ?_ ?_ ?_ | refine yak ?_ | refine yaf ?_ ?_ | refine yac ?_ ?_)
   all_goals (first | (simp; done) | omega | (simp; omega))
  case hst =>
   exact ⟨by omega, by simp, by simp, by simp⟩
 rintro mm ee ss kk ⟨j, g7, v7, rfl, rfl, rfl, hI⟩
 generalize hQl1 : ybb _ _ = Ql1
 obtain ⟨hj, hok, hnd, hrg⟩ := hI
 refine AW.seq fun K6 hK6 => ?_
 refine AW.seq fun K7 hK7 => ?_
 refine AW.regionK 0 (fun _ => none) [0, 1, 5, 6, 7, 15] [11] ?_
 simp only [go_sem, reduceIte, reduceCtorEq, zA, zM, zE, zL, zD, zS, zP, zB, zI, zR, hrl, hlen, hnl, yaa]
 repeat with_reducible refine cj ?_ ?_
 all_goals try first | omega
 refine hK7 _ _ _ ?_; clear hK7
 refine AW.cond rfl (by simp only [go_sem, reduceIte, reduceCtorEq, zA, zM, zE, zL, zD, zS, zP, zB, zI, zR]) ?_ ?_
 ·intro hb
  try simp only [hB, decide_eq_true_eq, decide_eq_false_iff_not] at hb
  obtain ⟨c, hcj⟩ := getI (l := cs) (j := j) (by omega)
  have hgc := M.nbR_get hcj
  have hcl := hll c (List.mem_of_getElem? hcj)
  have hcc := hic c (by omega)
  have htj : (cs.take (j + 1)) = cs.take j ++ [c] := by rw [List.take_add_one, hcj]; rfl
  have hats := ycr (p := okC n t) hcj
  have hfl0 := yh4 hnd hrg
  refine AW.skip ?_
  refine hK6 _ _ _ ?_; clear hK6
  refine AW.seq fun K8 hK8 => ?_
  refine AW.block ?_
  refine AW.seq fun K9 hK9 => ?_
  refine AW.seq fun K10 hK10 => ?_
  refine AW.regionK 0 (fun ii => if ii = 12 then some (.reads false (.bool (chainB n t c))) else none) [0, 1, 5, 6, 7, 32] [11] ?_
  simp only [go_sem, reduceIte, reduceCtorEq, zA, zM, zE, zL, zD, zS, zP, zB, zI, zR, hrl, hlen, hnl, yaa, hgc]
  repeat with_reducible refine cj ?_ ?_
  all_goals try first | (first | exact hcc | (intro hh; (repeat' apply And.intro) <;> first | exact hh | exact hcc | omega)) | (intros; (repeat' apply And.intro) <;> first | assumption | (first | exact hcc | (intro hh; (repeat' apply And.intro) <;> first | exact hh | exact hcc | omega))) | omega | exact ent (by kernel_rfl) | (intro hgd; exact absurd hgd (by decide)) | rfl | (simp only [go_sem, reduceIte, reduceCtorEq, zA, zM, zE, zL, zD, zS, zP, zB, zI, zR, hrl, hlen, hnl, yaa, hgc]; done) | (intro _hgd; simp_all [go_sem]; done)
  refine hK10 _ _ _ ?_; clear hK10
  refine AW.cond rfl (by simp only [go_sem, reduceIte, reduceCtorEq, zA, zM, zE, zL, zD, zS, zP, zB, zI, zR]) ?_ ?_
  ·intro hb
   try simp only [hB, decide_eq_true_eq, decide_eq_false_iff_not] at hb
   refine AW.seq fun K11 hK11 => ?_
   refine AW.regionK 0 (fun _ => none) [4] [] ?_
   simp only [go_sem, reduceIte, reduceCtorEq, zA, zM, zE, zL, zD, zS, zP, zB, zI, zR, hrl, hlen, hnl, yaa]
   repeat with_reducible refine cj ?_ ?_
   all_goals try first | omega
   refine hK11 _ _ _ ?_; clear hK11
   refine AW.ret ?_
   rw [← hQl1]
   rw [← hQr]
   simp only [go_sem, reduceIte, reduceCtorEq, zA, zM, zE, zL, zD, zS, zP, zB, zI, zR, hrl, hlen, hnl, yaa]
   have hf : ye1 n t cs = false := by
    have : cs.all (okC n t) = false := yd5 hcj (by unfold okC; revert hb; cases chainB n t c <;> simp)
    unfold ye1; rw [this]; rfl
   exact Wk.of_eq (by rw [hf])
  ·intro hb
   try simp only [hB, decide_eq_true_eq, decide_eq_false_iff_not] at hb
   have hokc : okC n t c = true := by unfold okC; revert hb; cases chainB n t c <;> simp
   have hcr := ykw hokc
   clear hb
   refine AW.skip ?_
   refine hK9 _ _ _ ?_; clear hK9
   refine AW.seq fun K12 hK12 => ?_
   refine AW.regionK 0 (fun _ => none) [0, 1, 5, 6, 7, 8] [11] ?_
   simp only [go_sem, reduceIte, reduceCtorEq, zA, zM, zE, zL, zD, zS, zP, zB, zI, zR, hrl, hlen, hnl, yaa]
   repeat with_reducible refine cj ?_ ?_
   all_goals try first | omega
   refine hK12 _ _ _ ?_; clear hK12
   refine AW.block ?_
   refine AW.loopE (fun mm ee ss kk => ∃ (k g7 v7 : Nat), c.length - k = mm ∧ ee = [(0, .rsl 1 (ydn t)), (1, .rsl 1 (M.nbR cs)), (5, .sl ⟨11, g7, none⟩ 0 n none), (6, .int .i64 (((cs.take j).flatten ++ c.take k).length : Nat)), (7, .int .i64 (j : Nat)), (8, .int .i64 (k : Nat))] ∧ ss = [(11, some ⟨g7, v7, 1, ya9 (rowL n ((cs.take j).flatten ++ c.take k))⟩)] ∧ (k ≤ c.length ∧ ((cs.take j).flatten ++ c.take k).Nodup ∧ ∀ x ∈ ((cs.take j).flatten ++ c.take k), 0 ≤ x ∧ x < (n : Int))) ?_ ?_
   ·refine ⟨_, 0, ?_, ?_, rfl, ?henv, ?hstore, ?hst⟩
    case henv =>
     repeat' (first | rfl | refine yab ?_ ?_ | refine yad ?_ ?_ ?_ ?_ | refine yag ?_ | refine yae ?_ | refine yah ?_ | refine yai ?_ | refine yan ?_ ?_ ?_ | refine yaj ?_ ?_ ?_ | refine yak ?_ | refine yaf ?_ ?_ | refine yac ?_ ?_)
     all_goals simp
    case hstore =>
     repeat' (first | rfl | refine yab ?_ ?_ | refine yad ?_ ?_ ?_ ?_ | refine yag ?_ | refine yae ?_ | refine yah ?_ | refine yai ?_ | refine yan ?_ ?_ ?_ | refine yaj ?_ ?_ ?_ | refine yak ?_ | refine yaf ?_ ?_ | refine yac ?_ ?_)
     all_goals simp
    case hst =>
     exact ⟨by omega, by simpa using hnd, by simpa using hrg⟩
   rintro mm ee ss kk ⟨k, g7, v7, rfl, rfl, rfl, hI⟩
   generalize hQl2 : ybb _ _ = Ql2
   obtain ⟨hk, hnd2, hrg2⟩ := hI
   have hfl2 := yh4 hnd2 hrg2
   refine AW.seq fun K13 hK13 => ?_
   refine AW.seq fun K14 hK14 => ?_
   refine AW.regionK 0 (fun _ => none) [0, 1, 5, 6, 7, 8, 39] [11] ?_
   simp only [go_sem, reduceIte, reduceCtorEq, zA, zM, zE, zL, zD, zS, zP, zB, zI, zR, hrl, hlen, hnl, yaa, hgc]
   repeat with_reducible refine cj ?_ ?_
   all_goals try first | omega
   refine hK14 _ _ _ ?_; clear hK14
   refine AW.cond rfl (by simp only [go_sem, reduceIte, reduceCtorEq, zA, zM, zE, zL, zD, zS, zP, zB, zI, zR]) ?_ ?_
   ·intro hb
    try simp only [hB, decide_eq_true_eq, decide_eq_false_iff_not] at hb
    obtain ⟨x, hx⟩ := getI (l := c) (j := k) (by omega)
    have hgx := ych hx
    have hxr := hcr x (List.mem_of_getElem? hx)
    have hsp := ylr hcj hx
    have htk : (cs.take j).flatten ++ c.take (k + 1) = ((cs.take j).flatten ++ c.take k) ++ [x] := by rw [List.take_add_one, hx]; simp
    generalize hF : (cs.take j).flatten ++ c.take k = F at *
    have hrl2 := ycv n F
    have hgs := ybr (l := rowL n F) (i := x.toNat) (by omega)
    rw [ydp (by omega), Int.toNat_of_nonneg hxr.1] at hgs
    have hus := bools_upd (rowL n F) x.toNat true
    rw [yn6 hxr] at hus
    refine AW.skip ?_
    refine hK13 _ _ _ ?_; clear hK13
    refine AW.seq fun K15 hK15 => ?_
    refine AW.block ?_
    refine AW.seq fun K16 hK16 => ?_
    refine AW.seq fun K17 hK17 => ?_
    refine AW.regionK 0 (fun _ => none) [0, 1, 5, 6, 7, 8, 51] [11] ?_
    simp only [go_sem, reduceIte, reduceCtorEq, zA, zM, zE, zL, zD, zS, zP, zB, zI, zR, hrl, hlen, hnl, yaa, hgc, hgx, yal, hrl2, hgs]
    repeat with_reducible refine cj ?_ ?_
    all_goals try first | omega
    refine hK17 _ _ _ ?_; clear hK17
    refine AW.cond rfl (by simp only [go_sem, reduceIte, reduceCtorEq, zA, zM, zE, zL, zD, zS, zP, zB, zI, zR]) ?_ ?_
    ·intro hb
     try simp only [hB, decide_eq_true_eq, decide_eq_false_iff_not] at hb
     refine AW.seq fun K18 hK18 => ?_
     refine AW.regionK 0 (fun _ => none) [4] [] ?_
     simp only [go_sem, reduceIte, reduceCtorEq, zA, zM, zE, zL, zD, zS, zP, zB, zI, zR, hrl, hlen, hnl, yaa]
     repeat with_reducible refine cj ?_ ?_
     all_goals try first | omega
     refine hK18 _ _ _ ?_; clear hK18
     refine AW.ret ?_
     rw [← hQl2]
     rw [← hQl1]
     rw [← hQr]
     simp only [go_sem, reduceIte, reduceCtorEq, zA, zM, zE, zL, zD, zS, zP, zB, zI, zR, hrl, hlen, hnl, yaa]
     have hf : ye1 n t cs = false := by
      have : decide cs.flatten.Nodup = false := decide_eq_false (by rw [hsp]; exact yja hb)
      unfold ye1; rw [this]; simp
     exact Wk.of_eq (by rw [hf])
    ·intro hb
     try simp only [hB, decide_eq_true_eq, decide_eq_false_iff_not] at hb
     refine AW.skip ?_
     refine hK16 _ _ _ ?_; clear hK16
     refine AW.seq fun K19 hK19 => ?_
     refine AW.regionK 0 (fun _ => none) [0, 1, 5, 6, 7, 8] [11] ?_
     simp only [go_sem, reduceIte, reduceCtorEq, zA, zM, zE, zL, zD, zS, zP, zB, zI, zR, hrl, hlen, hnl, yaa, hgc, hgx, yal, hrl2, hus]
     repeat with_reducible refine cj ?_ ?_
     all_goals try first | omega
     refine hK19 _ _ _ ?_; clear hK19
     refine AW.regionK 0 (fun _ => none) [0, 1, 5, 6, 7, 8] [11] ?_
     simp only [go_sem, reduceIte, reduceCtorEq, zA, zM, zE, zL, zD, zS, zP, zB, zI, zR, hrl, hlen, hnl, yaa]
     repeat with_reducible refine cj ?_ ?_
     all_goals try first | omega
     refine hK15 _ _ _ ?_; clear hK15
     refine AW.regionK 0 (fun _ => none) [0, 1, 5, 6, 7, 8] [11] ?_
     simp only [go_sem, reduceIte, reduceCtorEq, zA, zM, zE, zL, zD, zS, zP, zB, zI, zR, hrl, hlen, hnl, yaa]
     repeat with_reducible refine cj ?_ ?_
     all_goals try first | omega
     rw [← hQl2]
     change Exists _
     refine ⟨_, ?hm, k + 1, ?_, ?_, rfl, ?henv, ?hstore, ?hst⟩
     case henv =>
      repeat' (first | rfl | refine yab ?_ ?_ | refine yad ?_ ?_ ?_ ?_ | refine yag ?_ | refine yae ?_ | refine yah ?_ | refine yai ?_ | refine yan ?_ ?_ ?_ | refine yaj ?_ ?_ ?_ | refine yak ?_ | refine yaf ?_ ?_ | refine yac ?_ ?_)
      all_goals (first | (rw [htk]; simp; done) | (simp; done) | omega)
     case hstore =>
      repeat' (first | rfl | refine yab ?_ ?_ | refine yad ?_ ?_ ?_ ?_ | refine yag ?_ | refine yae ?_ | refine yah ?_ | refine yai ?_ | refine yan ?_ ?_ ?_ | refine yaj ?_ ?_ ?_ | refine yak ?_ | refine yaf ?_ ?_ | refine yac ?_ ?_)
      all_goals (rw [htk])
     case hst =>
      rw [htk]
      refine ⟨by omega, List.nodup_append.2 ⟨hnd2, by simp, ?_⟩, fun y hy => ?_⟩
      ·intro a ha z hz e
       simp only [List.mem_singleton] at hz
       subst hz; subst e; exact hb ha
      ·rcases List.mem_append.1 hy with h | h
       ·exact hrg2 y h
       ·simp only [List.mem_singleton] at h
        rw [h]; exact hxr
     case hm => omega
   ·intro hb
    try simp only [hB, decide_eq_true_eq, decide_eq_false_iff_not] at hb
    have hk2 : k = c.length := by omega
    have hfe : (cs.take j).flatten ++ c.take k = (cs.take (j + 1)).flatten := by rw [hk2, List.take_length, htj]; simp
    rw [hfe] at hnd2 hrg2 hfl2 ⊢
    refine AW.keep [0, 1, 5, 6, 7] [11] ?_
    try simp only [go_sem, reduceIte, reduceCtorEq, zA, zM, zE, zL, zD, zS, zP, zB, zI, zR]
    refine AW.exit ?_
    rw [← hQl2]
    refine hK8 _ _ _ ?_; clear hK8
    refine AW.regionK 0 (fun _ => none) [0, 1, 5, 6, 7] [11] ?_
    simp only [go_sem, reduceIte, reduceCtorEq, zA, zM, zE, zL, zD, zS, zP, zB, zI, zR, hrl, hlen, hnl, yaa]
    repeat with_reducible refine cj ?_ ?_
    all_goals try first | omega
    rw [← hQl1]
    change Exists _
    refine ⟨_, ?hm, j + 1, ?_, ?_, rfl, ?henv, ?hstore, ?hst⟩
    case henv =>
     repeat' (first | rfl | refine yab ?_ ?_ | refine yad ?_ ?_ ?_ ?_ | refine yag ?_ | refine yae ?_ | refine yah ?_ | refine yai ?_ | refine yan ?_ ?_ ?_ | refine yaj ?_ ?_ ?_ | refine yak ?_ | refine yaf ?_ ?_ | refine yac ?_ ?_)
     all_goals (first | (simp; done) | omega | (simp; omega))
    case hstore =>
     repeat' (first | rfl | refine yab ?_ ?_ | refine yad ?_ ?_ ?_ ?_ | refine yag ?_ | refine yae ?_ | refine yah ?_ | refine yai ?_ | refine yan ?_ ?_ ?_ | refine yaj ?_ ?_ ?_ | refine yak ?_ | refine yaf ?_ ?_ | refine yac ?_ ?_)
     all_goals (first | (simp; done) | omega | (simp; omega))
    case hst =>
     exact ⟨by omega, by rw [hats, hok, hokc]; rfl, hnd2, hrg2⟩
    case hm => omega
 ·intro hb
  try simp only [hB, decide_eq_true_eq, decide_eq_false_iff_not] at hb
  have hj2 : j = cs.length := by omega
  rw [hj2, List.take_length] at hok hnd hrg ⊢
  refine AW.keep [0, 6] [] ?_
  try simp only [go_sem, reduceIte, reduceCtorEq, zA, zM, zE, zL, zD, zS, zP, zB, zI, zR]
  refine AW.exit ?_
  rw [← hQl1]
  refine hK4 _ _ _ ?_; clear hK4
  refine AW.seq fun K20 hK20 => ?_
  refine AW.regionK 0 (fun _ => none) [4] [] ?_
  simp only [go_sem, reduceIte, reduceCtorEq, zA, zM, zE, zL, zD, zS, zP, zB, zI, zR, hrl, hlen, hnl, yaa]
  repeat with_reducible refine cj ?_ ?_
  all_goals try first | omega
  refine hK20 _ _ _ ?_; clear hK20
  refine AW.ret ?_
  rw [← hQr]
  simp only [go_sem, reduceIte, reduceCtorEq, zA, zM, zE, zL, zD, zS, zP, zB, zI, zR, hrl, hlen, hnl, yaa]
  exact Wk.of_eq (by unfold ye1; rw [hok, decide_eq_true hnd]; simp only [Bool.true_and]; congr 1; exact decide_eq_decide.2 (by omega))
theorem rval_e (rs : List USet) (hl : yqp rs) (hv : ydz rs = false) : Reads Tryd.prog 16 false [relV rs] (.bool false) := by
 have h := R.rrvalid_r rs hl.1 hl.2
 rw [hv] at h
 unfold relV at *
 refine Reads.body (rs := [.tmp 2]) Tryd.func16 rfl Tryd.ntmps16 rfl (by simp) ?_
 generalize hQr : retQ _ _ _ = Qr
 refine AW.seq fun K1 hK1 => ?_
 refine AW.regionK 0 (fun _ => none) [1] [1] ?_
 simp only [go_sem, reduceIte, reduceCtorEq, zA, zM, zE, zL, zD, zS, zP, zB, zI, zR]
 repeat with_reducible refine cj ?_ ?_
 all_goals try first | omega
 refine hK1 _ _ _ ?_; clear hK1
 refine AW.seq fun K2 hK2 => ?_
 refine AW.seq fun K3 hK3 => ?_
 refine AW.regionK 0 (fun ii => if ii = 1 then some (.reads false (.bool false)) else none) [1, 9] [1] ?_
 simp only [go_sem, reduceIte, reduceCtorEq, zA, zM, zE, zL, zD, zS, zP, zB, zI, zR]
 repeat with_reducible refine cj ?_ ?_
 all_goals try first | (exact h) | omega | exact ent (by kernel_rfl)
 refine hK3 _ _ _ ?_; clear hK3
 refine AW.cond rfl (by simp only [go_sem, reduceIte, reduceCtorEq, zA, zM, zE, zL, zD, zS, zP, zB, zI, zR]) ?_ ?_
 ·intro hb
  try simp only [hB, decide_eq_true_eq, decide_eq_false_iff_not] at hb
  refine AW.seq fun K4 hK4 => ?_
  refine AW.regionK 0 (fun _ => none) [2] [] ?_
  simp only [go_sem, reduceIte, reduceCtorEq, zA, zM, zE, zL, zD, zS, zP, zB, zI, zR]
  repeat with_reducible refine cj ?_ ?_
  all_goals try first | omega
  refine hK4 _ _ _ ?_; clear hK4
  refine AW.ret ?_
  rw [← hQr]
  simp only [go_sem, reduceIte, reduceCtorEq, zA, zM, zE, zL, zD, zS, zP, zB, zI, zR]
  exact Wk.refl _
 ·intro hb
  try simp only [hB, decide_eq_true_eq, decide_eq_false_iff_not] at hb
  exfalso; simp at hb
theorem ys7 (n : Nat) (t : List (List Bool)) (hs : Sq n t) (hn : n ≤ 512) : Reads Tryd.prog 16 false [relB t] (.bool (poB n t)) := by
 have hlen := hs.len
 have hlm : (t.map SB).length = n := by simp [hlen]
 have hW : ∀ x ∈ t.map SB, x.W.length ≤ 9223372036854775807 := fun x hx => by
  obtain ⟨b, hb, rfl⟩ := List.mem_map.1 hx
  have := yez (b := b) (by rw [hs.row b hb]; exact hn)
  simp only [SB]; omega
 have h := R.rrvalid_r (t.map SB) (by omega) hW
 rw [ynq hs hn, ← yl8] at h
 have ht := (R.table_r n t hs hn).old
 have hrl := yei t
 have hpo := ykr hs
 unfold relB at *
 refine Reads.body (rs := [.tmp 2]) Tryd.func16 rfl Tryd.ntmps16 rfl (by simp) ?_
 generalize hQr : retQ _ _ _ = Qr
 refine AW.seq fun K1 hK1 => ?_
 refine AW.regionK 0 (fun _ => none) [1] [1] ?_
 simp only [go_sem, reduceIte, reduceCtorEq, zA, zM, zE, zL, zD, zS, zP, zB, zI, zR, hrl, hlen, yal]
 repeat with_reducible refine cj ?_ ?_
 all_goals try first | omega
 refine hK1 _ _ _ ?_; clear hK1
 refine AW.seq fun K2 hK2 => ?_
 refine AW.seq fun K3 hK3 => ?_
 refine AW.regionK 0 (fun ii => if ii = 1 then some (.reads false (.bool true)) else none) [1, 9] [1] ?_
 simp only [go_sem, reduceIte, reduceCtorEq, zA, zM, zE, zL, zD, zS, zP, zB, zI, zR, hrl, hlen, yal]
 repeat with_reducible refine cj ?_ ?_
 all_goals try first | (exact h) | omega | exact ent (by kernel_rfl)
 refine hK3 _ _ _ ?_; clear hK3
 refine AW.cond rfl (by simp only [go_sem, reduceIte, reduceCtorEq, zA, zM, zE, zL, zD, zS, zP, zB, zI, zR]) ?_ ?_
 ·intro hb
  try simp only [hB, decide_eq_true_eq, decide_eq_false_iff_not] at hb
  exfalso; simp at hb
 ·intro hb
  try simp only [hB, decide_eq_true_eq, decide_eq_false_iff_not] at hb
  refine AW.skip ?_
  refine hK2 _ _ _ ?_; clear hK2
  refine AW.seq fun K4 hK4 => ?_
  refine AW.regionK 0 (fun ii => if ii = 1 then some (.reads false (.rsl 1 (ydn t))) else none) [3] [] ?_
  simp only [go_sem, reduceIte, reduceCtorEq, zA, zM, zE, zL, zD, zS, zP, zB, zI, zR, hrl, hlen, yal]
  repeat with_reducible refine cj ?_ ?_
  all_goals try first | (exact ht) | omega | exact ent (by kernel_rfl)
  refine hK4 _ _ _ ?_; clear hK4
  refine AW.seq fun K5 hK5 => ?_
  refine AW.seq fun K6 hK6 => ?_
  refine AW.regionK 0 (fun _ => none) [3, 4] [] ?_
  simp only [go_sem, reduceIte, reduceCtorEq, zA, zM, zE, zL, zD, zS, zP, zB, zI, zR, hrl, hlen, yal]
  repeat with_reducible refine cj ?_ ?_
  all_goals try first | omega
  refine hK6 _ _ _ ?_; clear hK6
  refine AW.block ?_
  refine AW.loopE (fun mm ee ss kk => ∃ (i : Nat), n - i = mm ∧ ee = [(3, .rsl 1 (ydn t)), (4, .int .i64 (i : Nat))] ∧ ss = [] ∧ (i ≤ n ∧ ∀ a, a < i → atT t a a = false ∧ ∀ b c, b < n → c < n → atT t a b = true → atT t b c = true → atT t a c = true)) ?_ ?_
  ·refine ⟨_, 0, rfl, ?henv, ?hstore, ?hst⟩
   case henv =>
    repeat' (first | rfl | refine yab ?_ ?_ | refine yad ?_ ?_ ?_ ?_ | refine yag ?_ | refine yae ?_ | refine yah ?_ | refine yai ?_ | refine yan ?_ ?_ ?_ | refine yaj ?_ ?_ ?_ | refine yak ?_ | refine yaf ?_ ?_ | refine yac ?_ ?_)
    all_goals (first | (simp; done) | omega | (simp; omega))
   case hstore =>
    repeat' (first | rfl | refine yab ?_ ?_ | refine yad ?_ ?_ ?_ ?_ | refine yag ?_ | refine yae ?_ | refine yah ?_ | refine yai ?_ | refine yan ?_ ?_ ?_ | refine yaj ?_ ?_ ?_ | refine yak ?_ | refine yaf ?_ ?_ | refine yac ?_ ?_)
    all_goals (first | (simp; done) | omega | (simp; omega))
   case hst =>
    exact ⟨by omega, fun a ha => by omega⟩
  rintro mm ee ss kk ⟨i, rfl, rfl, rfl, hI⟩
  generalize hQl1 : ybb _ _ = Ql1
  obtain ⟨hi, hal⟩ := hI
  refine AW.seq fun K7 hK7 => ?_
  refine AW.seq fun K8 hK8 => ?_
  refine AW.regionK 0 (fun _ => none) [3, 4, 15] [] ?_
  simp only [go_sem, reduceIte, reduceCtorEq, zA, zM, zE, zL, zD, zS, zP, zB, zI, zR, hrl, hlen, yal]
  repeat with_reducible refine cj ?_ ?_
  all_goals try first | omega
  refine hK8 _ _ _ ?_; clear hK8
  refine AW.cond rfl (by simp only [go_sem, reduceIte, reduceCtorEq, zA, zM, zE, zL, zD, zS, zP, zB, zI, zR]) ?_ ?_
  ·intro hb
   try simp only [hB, decide_eq_true_eq, decide_eq_false_iff_not] at hb
   have hgi := yfs (t := t) (i := i) (by omega)
   have hri := hs.rowLen (i := i) (by omega)
   have hgii := ybr (l := rowT t i) (i := i) (by omega)
   have hat : atT t i i = (rowT t i).getD i false := rfl
   rw [← hat] at hgii
   refine AW.skip ?_
   refine hK7 _ _ _ ?_; clear hK7
   refine AW.seq fun K9 hK9 => ?_
   refine AW.block ?_
   refine AW.seq fun K10 hK10 => ?_
   refine AW.seq fun K11 hK11 => ?_
   refine AW.regionK 0 (fun _ => none) [3, 4, 24] [] ?_
   simp only [go_sem, reduceIte, reduceCtorEq, zA, zM, zE, zL, zD, zS, zP, zB, zI, zR, hrl, hlen, yal, hgi, hri, hgii]
   repeat with_reducible refine cj ?_ ?_
   all_goals try first | omega
   refine hK11 _ _ _ ?_; clear hK11
   refine AW.cond rfl (by simp only [go_sem, reduceIte, reduceCtorEq, zA, zM, zE, zL, zD, zS, zP, zB, zI, zR]) ?_ ?_
   ·intro hb
    try simp only [hB, decide_eq_true_eq, decide_eq_false_iff_not] at hb
    refine AW.seq fun K12 hK12 => ?_
    refine AW.regionK 0 (fun _ => none) [2] [] ?_
    simp only [go_sem, reduceIte, reduceCtorEq, zA, zM, zE, zL, zD, zS, zP, zB, zI, zR, hrl, hlen, yal]
    repeat with_reducible refine cj ?_ ?_
    all_goals try first | omega
    refine hK12 _ _ _ ?_; clear hK12
    refine AW.ret ?_
    rw [← hQl1]
    rw [← hQr]
    simp only [go_sem, reduceIte, reduceCtorEq, zA, zM, zE, zL, zD, zS, zP, zB, zI, zR, hrl, hlen, yal]
    have hf : poB n t = false := by
     cases e : poB n t with
     | false => rfl
     | true => have := (hpo.1 e).irr i (by omega); rw [hb] at this; cases this
    exact Wk.of_eq (by rw [hf])
   ·intro hb
    try simp only [hB, decide_eq_true_eq, decide_eq_false_iff_not] at hb
    have hir : atT t i i = false := by simpa using hb
    clear hb
    refine AW.skip ?_
    refine hK10 _ _ _ ?_; clear hK10
    refine AW.seq fun K13 hK13 => ?_
    refine AW.regionK 0 (fun _ => none) [3, 4, 5] [] ?_
    simp only [go_sem, reduceIte, reduceCtorEq, zA, zM, zE, zL, zD, zS, zP, zB, zI, zR, hrl, hlen, yal]
    repeat with_reducible refine cj ?_ ?_
    all_goals try first | omega
    refine hK13 _ _ _ ?_; clear hK13
    refine AW.block ?_
    refine AW.loopE (fun mm ee ss kk => ∃ (j : Nat), n - j = mm ∧ ee = [(3, .rsl 1 (ydn t)), (4, .int .i64 (i : Nat)), (5, .int .i64 (j : Nat))] ∧ ss = [] ∧ (j ≤ n ∧ ∀ b c, b < j → c < n → atT t i b = true → atT t b c = true → atT t i c = true)) ?_ ?_
    ·refine ⟨_, 0, rfl, ?henv, ?hstore, ?hst⟩
     case henv =>
      repeat' (first | rfl | refine yab ?_ ?_ | refine yad ?_ ?_ ?_ ?_ | refine yag ?_ | refine yae ?_ | refine yah ?_ | refine yai ?_ | refine yan ?_ ?_ ?_ | refine yaj ?_ ?_ ?_ | refine yak ?_ | refine yaf ?_ ?_ | refine yac ?_ ?_)
      all_goals (first | (simp; done) | omega | (simp; omega))
     case hstore =>
      repeat' (first | rfl | refine yab ?_ ?_ | refine yad ?_ ?_ ?_ ?_ | refine yag ?_ | refine yae ?_ | refine yah ?_ | refine yai ?_ | refine yan ?_ ?_ ?_ | refine yaj ?_ ?_ ?_ | refine yak ?_ | refine yaf ?_ ?_ | refine yac ?_ ?_)
      all_goals (first | (simp; done) | omega | (simp; omega))
     case hst =>
      exact ⟨by omega, fun b c hb => by omega⟩
    rintro mm ee ss kk ⟨j, rfl, rfl, rfl, hI⟩
    generalize hQl2 : ybb _ _ = Ql2
    obtain ⟨hj, hal2⟩ := hI
    refine AW.seq fun K14 hK14 => ?_
    refine AW.seq fun K15 hK15 => ?_
    refine AW.regionK 0 (fun _ => none) [3, 4, 5, 28] [] ?_
    simp only [go_sem, reduceIte, reduceCtorEq, zA, zM, zE, zL, zD, zS, zP, zB, zI, zR, hrl, hlen, yal]
    repeat with_reducible refine cj ?_ ?_
    all_goals try first | omega
    refine hK15 _ _ _ ?_; clear hK15
    refine AW.cond rfl (by simp only [go_sem, reduceIte, reduceCtorEq, zA, zM, zE, zL, zD, zS, zP, zB, zI, zR]) ?_ ?_
    ·intro hb
     try simp only [hB, decide_eq_true_eq, decide_eq_false_iff_not] at hb
     have hgj := yfs (t := t) (i := j) (by omega)
     have hrj := hs.rowLen (i := j) (by omega)
     have hgij := ybr (l := rowT t i) (i := j) (by omega)
     have hatij : atT t i j = (rowT t i).getD j false := rfl
     rw [← hatij] at hgij
     refine AW.skip ?_
     refine hK14 _ _ _ ?_; clear hK14
     refine AW.seq fun K16 hK16 => ?_
     refine AW.block ?_
     refine AW.seq fun K17 hK17 => ?_
     refine AW.regionK 0 (fun _ => none) [3, 4, 5, 6] [] ?_
     simp only [go_sem, reduceIte, reduceCtorEq, zA, zM, zE, zL, zD, zS, zP, zB, zI, zR, hrl, hlen, yal]
     repeat with_reducible refine cj ?_ ?_
     all_goals try first | omega
     refine hK17 _ _ _ ?_; clear hK17
     refine AW.block ?_
     refine AW.loopE (fun mm ee ss kk => ∃ (k : Nat), n - k = mm ∧ ee = [(3, .rsl 1 (ydn t)), (4, .int .i64 (i : Nat)), (5, .int .i64 (j : Nat)), (6, .int .i64 (k : Nat))] ∧ ss = [] ∧ (k ≤ n ∧ ∀ c, c < k → atT t i j = true → atT t j c = true → atT t i c = true)) ?_ ?_
     ·refine ⟨_, 0, rfl, ?henv, ?hstore, ?hst⟩
      case henv =>
       repeat' (first | rfl | refine yab ?_ ?_ | refine yad ?_ ?_ ?_ ?_ | refine yag ?_ | refine yae ?_ | refine yah ?_ | refine yai ?_ | refine yan ?_ ?_ ?_ | refine yaj ?_ ?_ ?_ | refine yak ?_ | refine yaf ?_ ?_ | refine yac ?_ ?_)
       all_goals (first | (simp; done) | omega | (simp; omega))
      case hstore =>
       repeat' (first | rfl | refine yab ?_ ?_ | refine yad ?_ ?_ ?_ ?_ | refine yag ?_ | refine yae ?_ | refine yah ?_ | refine yai ?_ | refine yan ?_ ?_ ?_ | refine yaj ?_ ?_ ?_ | refine yak ?_ | refine yaf ?_ ?_ | refine yac ?_ ?_)
       all_goals (first | (simp; done) | omega | (simp; omega))
      case hst =>
       exact ⟨by omega, fun c hc => by omega⟩
     rintro mm ee ss kk ⟨k, rfl, rfl, rfl, hI⟩
     generalize hQl3 : ybb _ _ = Ql3
     obtain ⟨hk, hal3⟩ := hI
     refine AW.seq fun K18 hK18 => ?_
     refine AW.seq fun K19 hK19 => ?_
     refine AW.regionK 0 (fun _ => none) [3, 4, 5, 6, 34] [] ?_
     simp only [go_sem, reduceIte, reduceCtorEq, zA, zM, zE, zL, zD, zS, zP, zB, zI, zR, hrl, hlen, yal]
     repeat with_reducible refine cj ?_ ?_
     all_goals try first | omega
     refine hK19 _ _ _ ?_; clear hK19
     refine AW.cond rfl (by simp only [go_sem, reduceIte, reduceCtorEq, zA, zM, zE, zL, zD, zS, zP, zB, zI, zR]) ?_ ?_
     ·intro hb
      try simp only [hB, decide_eq_true_eq, decide_eq_false_iff_not] at hb
      have hgjk := ybr (l := rowT t j) (i := k) (by omega)
      have hgik := ybr (l := rowT t i) (i := k) (by omega)
      have hatjk : atT t j k = (rowT t j).getD k false := rfl
      have hatik : atT t i k = (rowT t i).getD k false := rfl
      rw [← hatjk] at hgjk
      rw [← hatik] at hgik
      refine AW.skip ?_
      refine hK18 _ _ _ ?_; clear hK18
      refine AW.seq fun K20 hK20 => ?_
      refine AW.block ?_
      refine AW.seq fun K21 hK21 => ?_
      refine AW.regionK 0 (fun _ => none) [3, 4, 5, 6, 62] [] ?_
      simp only [go_sem, reduceIte, reduceCtorEq, zA, zM, zE, zL, zD, zS, zP, zB, zI, zR, hrl, hlen, yal, hgi, hri, hgj, hrj, hgij, hgjk, hgik]
      repeat with_reducible refine cj ?_ ?_
      all_goals try first | ((intro hh; (repeat' apply And.intro) <;> first | exact hh | omega)) | (intros; (repeat' apply And.intro) <;> first | assumption | ((intro hh; (repeat' apply And.intro) <;> first | exact hh | omega))) | omega | (intro hgd; exact absurd hgd (by decide)) | rfl | (simp only [go_sem, reduceIte, reduceCtorEq, zA, zM, zE, zL, zD, zS, zP, zB, zI, zR, hrl, hlen, yal, hgi, hri, hgj, hrj, hgij, hgjk, hgik]; done) | (intro _hgd; simp_all [go_sem]; done)
      refine hK21 _ _ _ ?_; clear hK21
      refine AW.cond rfl (by simp only [go_sem, reduceIte, reduceCtorEq, zA, zM, zE, zL, zD, zS, zP, zB, zI, zR]) ?_ ?_
      ·intro hb
       try simp only [hB, decide_eq_true_eq, decide_eq_false_iff_not] at hb
       refine AW.seq fun K22 hK22 => ?_
       refine AW.regionK 0 (fun _ => none) [2] [] ?_
       simp only [go_sem, reduceIte, reduceCtorEq, zA, zM, zE, zL, zD, zS, zP, zB, zI, zR, hrl, hlen, yal]
       repeat with_reducible refine cj ?_ ?_
       all_goals try first | omega
       refine hK22 _ _ _ ?_; clear hK22
       refine AW.ret ?_
       rw [← hQl3]
       rw [← hQl2]
       rw [← hQl1]
       rw [← hQr]
       simp only [go_sem, reduceIte, reduceCtorEq, zA, zM, zE, zL, zD, zS, zP, zB, zI, zR, hrl, hlen, yal]
       have hf : poB n t = false := by
        cases e : poB n t with
        | false => rfl
        | true => have := (hpo.1 e).trans i j k (by omega) (by omega) (by omega) hb.1.1 hb.1.2; rw [hb.2] at this; cases this
       exact Wk.of_eq (by rw [hf])
      ·intro hb
       try simp only [hB, decide_eq_true_eq, decide_eq_false_iff_not] at hb
       refine AW.skip ?_
       refine hK20 _ _ _ ?_; clear hK20
       refine AW.regionK 0 (fun _ => none) [3, 4, 5, 6] [] ?_
       simp only [go_sem, reduceIte, reduceCtorEq, zA, zM, zE, zL, zD, zS, zP, zB, zI, zR, hrl, hlen, yal]
       repeat with_reducible refine cj ?_ ?_
       all_goals try first | omega
       rw [← hQl3]
       change Exists _
       refine ⟨_, ?hm, k + 1, rfl, ?henv, ?hstore, ?hst⟩
       case henv =>
        repeat' (first | rfl | refine yab ?_ ?_ | refine yad ?_ ?_ ?_ ?_ | refine yag ?_ | refine yae ?_ | refine yah ?_ | refine yai ?_ | refine yan ?_ ?_ ?_ | refine yaj ?_ ?_ ?_ | refine yak ?_ | refine yaf ?_ ?_ | refine yac ?_ ?_)
        all_goals (first | (simp; done) | omega | (simp; omega))
       case hstore =>
        repeat' (first | rfl | refine yab ?_ ?_ | refine yad ?_ ?_ ?_ ?_ | refine yag ?_ | refine yae ?_ | refine yah ?_ | refine yai ?_ | refine yan ?_ ?_ ?_ | refine yaj ?_ ?_ ?_ | refine yak ?_ | refine yaf ?_ ?_ | refine yac ?_ ?_)
        all_goals (first | (simp; done) | omega | (simp; omega))
       case hst =>
        refine ⟨by omega, fun c hc h1 h2 => ?_⟩
        by_cases e : c = k
        ·subst e
         revert hb; rw [h1, h2]; cases atT t i c <;> simp
        ·exact hal3 c (by omega) h1 h2
       case hm => omega
     ·intro hb
      try simp only [hB, decide_eq_true_eq, decide_eq_false_iff_not] at hb
      have hk2 : k = n := by omega
      refine AW.keep [3, 4, 5] [] ?_
      try simp only [go_sem, reduceIte, reduceCtorEq, zA, zM, zE, zL, zD, zS, zP, zB, zI, zR]
      refine AW.exit ?_
      rw [← hQl3]
      refine hK16 _ _ _ ?_; clear hK16
      refine AW.regionK 0 (fun _ => none) [3, 4, 5] [] ?_
      simp only [go_sem, reduceIte, reduceCtorEq, zA, zM, zE, zL, zD, zS, zP, zB, zI, zR, hrl, hlen, yal]
      repeat with_reducible refine cj ?_ ?_
      all_goals try first | omega
      rw [← hQl2]
      change Exists _
      refine ⟨_, ?hm, j + 1, rfl, ?henv, ?hstore, ?hst⟩
      case henv =>
       repeat' (first | rfl | refine yab ?_ ?_ | refine yad ?_ ?_ ?_ ?_ | refine yag ?_ | refine yae ?_ | refine yah ?_ | refine yai ?_ | refine yan ?_ ?_ ?_ | refine yaj ?_ ?_ ?_ | refine yak ?_ | refine yaf ?_ ?_ | refine yac ?_ ?_)
       all_goals (first | (simp; done) | omega | (simp; omega))
      case hstore =>
       repeat' (first | rfl | refine yab ?_ ?_ | refine yad ?_ ?_ ?_ ?_ | refine yag ?_ | refine yae ?_ | refine yah ?_ | refine yai ?_ | refine yan ?_ ?_ ?_ | refine yaj ?_ ?_ ?_ | refine yak ?_ | refine yaf ?_ ?_ | refine yac ?_ ?_)
       all_goals (first | (simp; done) | omega | (simp; omega))
      case hst =>
       refine ⟨by omega, fun b c hb2 hc h1 h2 => ?_⟩
       by_cases e : b = j
       ·subst e; exact hal3 c (by omega) h1 h2
       ·exact hal2 b c (by omega) hc h1 h2
      case hm => omega
    ·intro hb
     try simp only [hB, decide_eq_true_eq, decide_eq_false_iff_not] at hb
     have hj2 : j = n := by omega
     refine AW.keep [3, 4] [] ?_
     try simp only [go_sem, reduceIte, reduceCtorEq, zA, zM, zE, zL, zD, zS, zP, zB, zI, zR]
     refine AW.exit ?_
     rw [← hQl2]
     refine hK9 _ _ _ ?_; clear hK9
     refine AW.regionK 0 (fun _ => none) [3, 4] [] ?_
     simp only [go_sem, reduceIte, reduceCtorEq, zA, zM, zE, zL, zD, zS, zP, zB, zI, zR, hrl, hlen, yal]
     repeat with_reducible refine cj ?_ ?_
     all_goals try first | omega
     rw [← hQl1]
     change Exists _
     refine ⟨_, ?hm, i + 1, rfl, ?henv, ?hstore, ?hst⟩
     case henv =>
      repeat' (first | rfl | refine yab ?_ ?_ | refine yad ?_ ?_ ?_ ?_ | refine yag ?_ | refine yae ?_ | refine yah ?_ | refine yai ?_ | refine yan ?_ ?_ ?_ | refine yaj ?_ ?_ ?_ | refine yak ?_ | refine yaf ?_ ?_ | refine yac ?_ ?_)
      all_goals (first | (simp; done) | omega | (simp; omega))
     case hstore =>
      repeat' (first | rfl | refine yab ?_ ?_ | refine yad ?_ ?_ ?_ ?_ | refine yag ?_ | refine yae ?_ | refine yah ?_ | refine yai ?_ | refine yan ?_ ?_ ?_ | refine yaj ?_ ?_ ?_ | refine yak ?_ | refine yaf ?_ ?_ | refine yac ?_ ?_)
      all_goals (first | (simp; done) | omega | (simp; omega))
     case hst =>
      refine ⟨by omega, fun a ha => ?_⟩
      by_cases e : a = i
      ·subst e; exact ⟨hir, fun b c hb2 hc => hal2 b c (by omega) hc⟩
      ·exact hal a (by omega)
     case hm => omega
  ·intro hb
   try simp only [hB, decide_eq_true_eq, decide_eq_false_iff_not] at hb
   refine AW.keep [] [] ?_
   try simp only [go_sem, reduceIte, reduceCtorEq, zA, zM, zE, zL, zD, zS, zP, zB, zI, zR]
   refine AW.exit ?_
   rw [← hQl1]
   refine hK5 _ _ _ ?_; clear hK5
   refine AW.seq fun K23 hK23 => ?_
   refine AW.regionK 0 (fun _ => none) [2] [] ?_
   simp only [go_sem, reduceIte, reduceCtorEq, zA, zM, zE, zL, zD, zS, zP, zB, zI, zR, hrl, hlen, yal]
   repeat with_reducible refine cj ?_ ?_
   all_goals try first | omega
   refine hK23 _ _ _ ?_; clear hK23
   refine AW.ret ?_
   rw [← hQr]
   simp only [go_sem, reduceIte, reduceCtorEq, zA, zM, zE, zL, zD, zS, zP, zB, zI, zR, hrl, hlen, yal]
   have hi2 : i = n := by omega
   have hp : IsPo n t := ⟨fun a ha => (hal a (by omega)).1, fun a b c ha hb2 hc => (hal a (by omega)).2 b c hb2 hc⟩
   exact Wk.of_eq (by rw [hpo.2 hp])
end Go.Proofs.W

namespace Go.Proofs.W
open Go.AM Go
set_option maxRecDepth 100000
set_option maxHeartbeats 2000000
def ykx (x : USet) : Bool := decide ((20 : Int) < x.W.length)
theorem great1_r (x : USet) (hx : x.W.length ≤ 9223372036854775807) : Reads Tryd.prog 35 false [.agg (rowV x)] (.bool (ykx x)) := by
 unfold rowV
 refine Reads.body (rs := [.tmp 2]) Tryd.func35 rfl Tryd.ntmps35 rfl (by simp) ?_
 generalize hQr : retQ _ _ _ = Qr
 refine AW.seq fun K1 hK1 => ?_
 refine AW.regionK 0 (fun _ => none) [1] [1] ?_
 simp only [go_sem, reduceIte, reduceCtorEq, zA, zM, zE, zL, zD, zS, zP, zB, zI, zR]
 repeat with_reducible refine cj ?_ ?_
 all_goals try first | omega
 refine hK1 _ _ _ ?_; clear hK1
 refine AW.seq fun K2 hK2 => ?_
 refine AW.regionK 0 (fun _ => none) [2] [] ?_
 simp only [go_sem, reduceIte, reduceCtorEq, zA, zM, zE, zL, zD, zS, zP, zB, zI, zR]
 repeat with_reducible refine cj ?_ ?_
 all_goals try first | omega
 refine hK2 _ _ _ ?_; clear hK2
 refine AW.ret ?_
 rw [← hQr]
 simp only [go_sem, reduceIte, reduceCtorEq, zA, zM, zE, zL, zD, zS, zP, zB, zI, zR]
 exact Wk.of_eq (by unfold ykx; simp)
theorem ixgreat_r (rs : List USet) (hl : yqp rs) : Reads Tryd.prog 64 false [.rsl 2 (rs.map rowV), .fn 35 []] (.int .i64 (ixf ykx rs)) := by
 have hbp := fun x hxm => great1_r x (hl.2 x hxm)
 have hl1 := hl.1
 refine Reads.body (rs := [.tmp 4]) Tryd.func64 rfl Tryd.ntmps64 rfl (by simp) ?_
 generalize hQr : retQ _ _ _ = Qr
 refine AW.seq fun K1 hK1 => ?_
 refine AW.regionK 0 (fun _ => none) [0, 1] [] ?_
 simp only [go_sem, reduceIte, reduceCtorEq, zA, zM, zE, zL, zD, zS, zP, zB, zI, zR]
 repeat with_reducible refine cj ?_ ?_
 all_goals try first | omega
 refine hK1 _ _ _ ?_; clear hK1
 refine AW.seq fun K2 hK2 => ?_
 refine AW.seq fun K3 hK3 => ?_
 refine AW.regionK 0 (fun _ => none) [0, 1, 7, 8] [] ?_
 simp only [go_sem, reduceIte, reduceCtorEq, zA, zM, zE, zL, zD, zS, zP, zB, zI, zR]
 repeat with_reducible refine cj ?_ ?_
 all_goals try first | omega
 refine hK3 _ _ _ ?_; clear hK3
 refine AW.block ?_
 refine AW.loopE (fun mm ee ss kk => ∃ (j : Nat), rs.length - j = mm ∧ ee = [(0, .rsl 2 (rs.map rowV)), (1, .fn 35 []), (7, .int .i64 rs.length), (8, .int .i64 (j : Nat))] ∧ ss = [] ∧ (j ≤ rs.length ∧ (rs.take j).any ykx = false)) ?_ ?_
 ·refine ⟨_, 0, rfl, ?henv, ?hstore, ?hst⟩
  case henv =>
   repeat' (first | rfl | refine yab ?_ ?_ | refine yad ?_ ?_ ?_ ?_ | refine yag ?_ | refine yae ?_ | refine yah ?_ | refine yai ?_ | refine yan ?_ ?_ ?_ | refine yaj ?_ ?_ ?_ | refine yak ?_ | refine yaf ?_ ?_ | refine yac ?_ ?_)
   all_goals (first | (simp; done) | omega | (simp; omega))
  case hstore =>
   repeat' (first | rfl | refine yab ?_ ?_ | refine yad ?_ ?_ ?_ ?_ | refine yag ?_ | refine yae ?_ | refine yah ?_ | refine yai ?_ | refine yan ?_ ?_ ?_ | refine yaj ?_ ?_ ?_ | refine yak ?_ | refine yaf ?_ ?_ | refine yac ?_ ?_)
   all_goals (first | (simp; done) | omega | (simp; omega))
  case hst =>
   first | trivial | omega | (simp; done) | (simp; omega)
 rintro mm ee ss kk ⟨j, rfl, rfl, rfl, hI⟩
 generalize hQl1 : ybb _ _ = Ql1
 obtain ⟨hj, hall⟩ := hI
 refine AW.seq fun K4 hK4 => ?_
 refine AW.regionK 0 (fun _ => none) [0, 1, 7, 8, 9] [] ?_
 simp only [go_sem, reduceIte, reduceCtorEq, zA, zM, zE, zL, zD, zS, zP, zB, zI, zR]
 repeat with_reducible refine cj ?_ ?_
 all_goals try first | omega
 refine hK4 _ _ _ ?_; clear hK4
 refine AW.seq fun K5 hK5 => ?_
 refine AW.cond rfl (by simp only [go_sem, reduceIte, reduceCtorEq, zA, zM, zE, zL, zD, zS, zP, zB, zI, zR]) ?_ ?_
 ·intro hb
  try simp only [hB, decide_eq_true_eq, decide_eq_false_iff_not] at hb
  obtain ⟨x, hx⟩ := getI (l := rs) (j := j) (by omega)
  have hgx := getV (f := rowV) hx
  have hats := yb2 (p := ykx) hx
  have hbx := hbp x (List.mem_of_getElem? hx)
  refine AW.skip ?_
  refine hK5 _ _ _ ?_; clear hK5
  refine AW.seq fun K6 hK6 => ?_
  refine AW.block ?_
  refine AW.seq fun K7 hK7 => ?_
  refine AW.regionK 0 (fun _ => none) [0, 1, 5, 7, 8] [] ?_
  simp only [go_sem, reduceIte, reduceCtorEq, zA, zM, zE, zL, zD, zS, zP, zB, zI, zR]
  repeat with_reducible refine cj ?_ ?_
  all_goals try first | omega
  refine hK7 _ _ _ ?_; clear hK7
  refine AW.seq fun K8 hK8 => ?_
  refine AW.regionK 0 (fun ii => if ii = 5 then some (.reads false (.bool (ykx x))) else none) [0, 1, 5, 7, 8, 16] [] ?_
  simp only [go_sem, reduceIte, reduceCtorEq, zA, zM, zE, zL, zD, zS, zP, zB, zI, zR, hgx, rowV]
  repeat with_reducible refine cj ?_ ?_
  all_goals try first | (exact hbx) | omega | exact ent (by kernel_rfl)
  refine hK8 _ _ _ ?_; clear hK8
  refine AW.cond rfl (by simp only [go_sem, reduceIte, reduceCtorEq, zA, zM, zE, zL, zD, zS, zP, zB, zI, zR]) ?_ ?_
  ·intro hb
   try simp only [hB, decide_eq_true_eq, decide_eq_false_iff_not] at hb
   refine AW.seq fun K9 hK9 => ?_
   refine AW.regionK 0 (fun _ => none) [4] [] ?_
   simp only [go_sem, reduceIte, reduceCtorEq, zA, zM, zE, zL, zD, zS, zP, zB, zI, zR]
   repeat with_reducible refine cj ?_ ?_
   all_goals try first | omega
   refine hK9 _ _ _ ?_; clear hK9
   refine AW.ret ?_
   rw [← hQl1]
   rw [← hQr]
   simp only [go_sem, reduceIte, reduceCtorEq, zA, zM, zE, zL, zD, zS, zP, zB, zI, zR]
   exact Wk.of_eq (by rw [ykf hx hb hall])
  ·intro hb
   try simp only [hB, decide_eq_true_eq, decide_eq_false_iff_not] at hb
   refine AW.skip ?_
   refine hK6 _ _ _ ?_; clear hK6
   refine AW.regionK 0 (fun _ => none) [0, 1, 7, 8] [] ?_
   simp only [go_sem, reduceIte, reduceCtorEq, zA, zM, zE, zL, zD, zS, zP, zB, zI, zR]
   repeat with_reducible refine cj ?_ ?_
   all_goals try first | omega
   rw [← hQl1]
   change Exists _
   refine ⟨_, ?hm, j + 1, rfl, ?henv, ?hstore, ?hst⟩
   case henv =>
    repeat' (first | rfl | refine yab ?_ ?_ | refine yad ?_ ?_ ?_ ?_ | refine yag ?_ | refine yae ?_ | refine yah ?_ | refine yai ?_ | refine yan ?_ ?_ ?_ | refine yaj ?_ ?_ ?_ | refine yak ?_ | refine yaf ?_ ?_ | refine yac ?_ ?_)
    all_goals (first | (simp; done) | omega | (simp; omega))
   case hstore =>
    repeat' (first | rfl | refine yab ?_ ?_ | refine yad ?_ ?_ ?_ ?_ | refine yag ?_ | refine yae ?_ | refine yah ?_ | refine yai ?_ | refine yan ?_ ?_ ?_ | refine yaj ?_ ?_ ?_ | refine yak ?_ | refine yaf ?_ ?_ | refine yac ?_ ?_)
    all_goals (first | (simp; done) | omega | (simp; omega))
   case hst =>
    exact ⟨by omega, by rw [hats, hall, hb]; rfl⟩
   case hm => omega
 ·intro hb
  try simp only [hB, decide_eq_true_eq, decide_eq_false_iff_not] at hb
  refine AW.keep [] [] ?_
  try simp only [go_sem, reduceIte, reduceCtorEq, zA, zM, zE, zL, zD, zS, zP, zB, zI, zR]
  refine AW.exit ?_
  rw [← hQl1]
  refine hK2 _ _ _ ?_; clear hK2
  refine AW.seq fun K10 hK10 => ?_
  refine AW.regionK 0 (fun _ => none) [4] [] ?_
  simp only [go_sem, reduceIte, reduceCtorEq, zA, zM, zE, zL, zD, zS, zP, zB, zI, zR]
  repeat with_reducible refine cj ?_ ?_
  all_goals try first | omega
  refine hK10 _ _ _ ?_; clear hK10
  refine AW.ret ?_
  rw [← hQr]
  simp only [go_sem, reduceIte, reduceCtorEq, zA, zM, zE, zL, zD, zS, zP, zB, zI, zR]
  exact Wk.of_eq (by rw [List.take_of_length_le (by omega)] at hall; rw [yf6 hall])
theorem ctgreat_r (rs : List USet) (hl : yqp rs) : Reads Tryd.prog 34 false [.rsl 2 (rs.map rowV), .fn 35 []] (.bool (rs.any ykx)) := by
 have h := ixgreat_r rs hl
 have hge := yli ykx rs
 refine Reads.body (rs := [.tmp 4]) Tryd.func34 rfl Tryd.ntmps34 rfl (by simp) ?_
 generalize hQr : retQ _ _ _ = Qr
 refine AW.seq fun K1 hK1 => ?_
 refine AW.regionK 0 (fun _ => none) [0, 1] [] ?_
 simp only [go_sem, reduceIte, reduceCtorEq, zA, zM, zE, zL, zD, zS, zP, zB, zI, zR]
 repeat with_reducible refine cj ?_ ?_
 all_goals try first | omega
 refine hK1 _ _ _ ?_; clear hK1
 refine AW.seq fun K2 hK2 => ?_
 refine AW.regionK 0 (fun ii => if ii = 2 then some (.reads false (.int .i64 (ixf ykx rs))) else none) [4] [] ?_
 simp only [go_sem, reduceIte, reduceCtorEq, zA, zM, zE, zL, zD, zS, zP, zB, zI, zR]
 repeat with_reducible refine cj ?_ ?_
 all_goals try first | (exact h) | omega | exact ent (by kernel_rfl)
 refine hK2 _ _ _ ?_; clear hK2
 refine AW.ret ?_
 rw [← hQr]
 simp only [go_sem, reduceIte, reduceCtorEq, zA, zM, zE, zL, zD, zS, zP, zB, zI, zR]
 exact Wk.of_eq (by rw [hge])
def yr7 (rs : List USet) : Bool := decide ((70 : Int) < rs.length) && decide ((rs.length : Int) ≤ 512) || decide ((520 : Int) < rs.length) || rs.any ykx
theorem yr8 (rs : List USet) (hl : yqp rs) : Reads Tryd.prog 9 false [relV rs] (.bool (yr7 rs)) := by
 have h := Reads.flat (ctgreat_r rs hl) rfl
 have hl1 := hl.1
 unfold relV
 refine Reads.body (rs := [.tmp 2]) Tryd.func9 rfl Tryd.ntmps9 rfl (by simp) ?_
 generalize hQr : retQ _ _ _ = Qr
 refine AW.seq fun K1 hK1 => ?_
 refine AW.regionK 0 (fun _ => none) [1] [1] ?_
 simp only [go_sem, reduceIte, reduceCtorEq, zA, zM, zE, zL, zD, zS, zP, zB, zI, zR]
 repeat with_reducible refine cj ?_ ?_
 all_goals try first | omega
 refine hK1 _ _ _ ?_; clear hK1
 refine AW.seq fun K2 hK2 => ?_
 refine AW.regionK 0 (fun ii => if ii = 19 then some (.reads true (.bool (rs.any ykx))) else none) [2] [] ?_
 simp only [go_sem, reduceIte, reduceCtorEq, zA, zM, zE, zL, zD, zS, zP, zB, zI, zR]
 repeat with_reducible refine cj ?_ ?_
 all_goals try first | ((intro hh; exact ⟨hh, h⟩)) | (intros; (repeat' apply And.intro) <;> first | assumption | ((intro hh; exact ⟨hh, h⟩))) | omega | exact ent (by kernel_rfl) | (intro hgd; exact absurd hgd (by decide)) | rfl | (simp only [go_sem, reduceIte, reduceCtorEq, zA, zM, zE, zL, zD, zS, zP, zB, zI, zR]; done) | (intro _hgd; simp_all [go_sem]; done)
 refine hK2 _ _ _ ?_; clear hK2
 refine AW.ret ?_
 rw [← hQr]
 simp only [go_sem, reduceIte, reduceCtorEq, zA, zM, zE, zL, zD, zS, zP, zB, zI, zR]
 exact Wk.of_eq (by unfold yr7; rfl)
def yje (c : List Int) : Bool := decide ((60 : Int) < c.length)
theorem long1_r (c : List Int) (hx : c.length ≤ 9223372036854775807) : Reads Tryd.prog 44 false [.rsl 1 (ints c)] (.bool (yje c)) := by
 refine Reads.body (rs := [.tmp 2]) Tryd.func44 rfl Tryd.ntmps44 rfl (by simp) ?_
 generalize hQr : retQ _ _ _ = Qr
 refine AW.seq fun K1 hK1 => ?_
 refine AW.regionK 0 (fun _ => none) [0] [] ?_
 simp only [go_sem, reduceIte, reduceCtorEq, zA, zM, zE, zL, zD, zS, zP, zB, zI, zR, yaa]
 repeat with_reducible refine cj ?_ ?_
 all_goals try first | omega
 refine hK1 _ _ _ ?_; clear hK1
 refine AW.seq fun K2 hK2 => ?_
 refine AW.regionK 0 (fun _ => none) [2] [] ?_
 simp only [go_sem, reduceIte, reduceCtorEq, zA, zM, zE, zL, zD, zS, zP, zB, zI, zR, yaa]
 repeat with_reducible refine cj ?_ ?_
 all_goals try first | omega
 refine hK2 _ _ _ ?_; clear hK2
 refine AW.ret ?_
 rw [← hQr]
 simp only [go_sem, reduceIte, reduceCtorEq, zA, zM, zE, zL, zD, zS, zP, zB, zI, zR, yaa]
 exact Wk.of_eq (by unfold yje; simp)
theorem ixlong_r (cs : List (List Int)) (hl1 : cs.length ≤ 9223372036854775807) (hl2 : ∀ c ∈ cs, c.length ≤ 9223372036854775807) : Reads Tryd.prog 72 false [.rsl 1 (M.nbR cs), .fn 44 []] (.int .i64 (ixf yje cs)) := by
 have hbp := fun x hxm => long1_r x (hl2 x hxm)
 have hnl := M.nbR_len cs
 refine Reads.body (rs := [.tmp 4]) Tryd.func72 rfl Tryd.ntmps72 rfl (by simp) ?_
 generalize hQr : retQ _ _ _ = Qr
 refine AW.seq fun K1 hK1 => ?_
 refine AW.regionK 0 (fun _ => none) [0, 1] [] ?_
 simp only [go_sem, reduceIte, reduceCtorEq, zA, zM, zE, zL, zD, zS, zP, zB, zI, zR, hnl]
 repeat with_reducible refine cj ?_ ?_
 all_goals try first | omega
 refine hK1 _ _ _ ?_; clear hK1
 refine AW.seq fun K2 hK2 => ?_
 refine AW.seq fun K3 hK3 => ?_
 refine AW.regionK 0 (fun _ => none) [0, 1, 7, 8] [] ?_
 simp only [go_sem, reduceIte, reduceCtorEq, zA, zM, zE, zL, zD, zS, zP, zB, zI, zR, hnl]
 repeat with_reducible refine cj ?_ ?_
 all_goals try first | omega
 refine hK3 _ _ _ ?_; clear hK3
 refine AW.block ?_
 refine AW.loopE (fun mm ee ss kk => ∃ (j : Nat), cs.length - j = mm ∧ ee = [(0, .rsl 1 (M.nbR cs)), (1, .fn 44 []), (7, .int .i64 cs.length), (8, .int .i64 (j : Nat))] ∧ ss = [] ∧ (j ≤ cs.length ∧ (cs.take j).any yje = false)) ?_ ?_
 ·refine ⟨_, 0, rfl, ?henv, ?hstore, ?hst⟩
  case henv =>
   repeat' (first | rfl | refine yab ?_ ?_ | refine yad ?_ ?_ ?_ ?_ | refine yag ?_ | refine yae ?_ | refine yah ?_ | refine yai ?_ | refine yan ?_ ?_ ?_ | refine yaj ?_ ?_ ?_ | refine yak ?_ | refine yaf ?_ ?_ | refine yac ?_ ?_)
   all_goals (first | (simp; done) | omega | (simp; omega))
  case hstore =>
   repeat' (first | rfl | refine yab ?_ ?_ | refine yad ?_ ?_ ?_ ?_ | refine yag ?_ | refine yae ?_ | refine yah ?_ | refine yai ?_ | refine yan ?_ ?_ ?_ | refine yaj ?_ ?_ ?_ | refine yak ?_ | refine yaf ?_ ?_ | refine yac ?_ ?_)
   all_goals (first | (simp; done) | omega | (simp; omega))
  case hst =>
   first | trivial | omega | (simp; done) | (simp; omega)
 rintro mm ee ss kk ⟨j, rfl, rfl, rfl, hI⟩
 generalize hQl1 : ybb _ _ = Ql1
 obtain ⟨hj, hall⟩ := hI
 refine AW.seq fun K4 hK4 => ?_
 refine AW.regionK 0 (fun _ => none) [0, 1, 7, 8, 9] [] ?_
 simp only [go_sem, reduceIte, reduceCtorEq, zA, zM, zE, zL, zD, zS, zP, zB, zI, zR, hnl]
 repeat with_reducible refine cj ?_ ?_
 all_goals try first | omega
 refine hK4 _ _ _ ?_; clear hK4
 refine AW.seq fun K5 hK5 => ?_
 refine AW.cond rfl (by simp only [go_sem, reduceIte, reduceCtorEq, zA, zM, zE, zL, zD, zS, zP, zB, zI, zR]) ?_ ?_
 ·intro hb
  try simp only [hB, decide_eq_true_eq, decide_eq_false_iff_not] at hb
  obtain ⟨x, hx⟩ := getI (l := cs) (j := j) (by omega)
  have hgx := M.nbR_get hx
  have hats := yb2 (p := yje) hx
  have hbx := hbp x (List.mem_of_getElem? hx)
  refine AW.skip ?_
  refine hK5 _ _ _ ?_; clear hK5
  refine AW.seq fun K6 hK6 => ?_
  refine AW.block ?_
  refine AW.seq fun K7 hK7 => ?_
  refine AW.regionK 0 (fun _ => none) [0, 1, 5, 7, 8] [] ?_
  simp only [go_sem, reduceIte, reduceCtorEq, zA, zM, zE, zL, zD, zS, zP, zB, zI, zR, hnl]
  repeat with_reducible refine cj ?_ ?_
  all_goals try first | omega
  refine hK7 _ _ _ ?_; clear hK7
  refine AW.seq fun K8 hK8 => ?_
  refine AW.regionK 0 (fun ii => if ii = 5 then some (.reads false (.bool (yje x))) else none) [0, 1, 5, 7, 8, 16] [] ?_
  simp only [go_sem, reduceIte, reduceCtorEq, zA, zM, zE, zL, zD, zS, zP, zB, zI, zR, hnl, hgx]
  repeat with_reducible refine cj ?_ ?_
  all_goals try first | (exact hbx) | omega | exact ent (by kernel_rfl)
  refine hK8 _ _ _ ?_; clear hK8
  refine AW.cond rfl (by simp only [go_sem, reduceIte, reduceCtorEq, zA, zM, zE, zL, zD, zS, zP, zB, zI, zR]) ?_ ?_
  ·intro hb
   try simp only [hB, decide_eq_true_eq, decide_eq_false_iff_not] at hb
   refine AW.seq fun K9 hK9 => ?_
   refine AW.regionK 0 (fun _ => none) [4] [] ?_
   simp only [go_sem, reduceIte, reduceCtorEq, zA, zM, zE, zL, zD, zS, zP, zB, zI, zR, hnl]
   repeat with_reducible refine cj ?_ ?_
   all_goals try first | omega
   refine hK9 _ _ _ ?_; clear hK9
   refine AW.ret ?_
   rw [← hQl1]
   rw [← hQr]
   simp only [go_sem, reduceIte, reduceCtorEq, zA, zM, zE, zL, zD, zS, zP, zB, zI, zR, hnl]
   exact Wk.of_eq (by rw [ykf hx hb hall])
  ·intro hb
   try simp only [hB, decide_eq_true_eq, decide_eq_false_iff_not] at hb
   refine AW.skip ?_
   refine hK6 _ _ _ ?_; clear hK6
   refine AW.regionK 0 (fun _ => none) [0, 1, 7, 8] [] ?_
   simp only [go_sem, reduceIte, reduceCtorEq, zA, zM, zE, zL, zD, zS, zP, zB, zI, zR, hnl]
   repeat with_reducible refine cj ?_ ?_
   all_goals try first | omega
   rw [← hQl1]
   change Exists _
   refine ⟨_, ?hm, j + 1, rfl, ?henv, ?hstore, ?hst⟩
   case henv =>
    repeat' (first | rfl | refine yab ?_ ?_ | refine yad ?_ ?_ ?_ ?_ | refine yag ?_ | refine yae ?_ | refine yah ?_ | refine yai ?_ | refine yan ?_ ?_ ?_ | refine yaj ?_ ?_ ?_ | refine yak ?_ | refine yaf ?_ ?_ | refine yac ?_ ?_)
    all_goals (first | (simp; done) | omega | (simp; omega))
   case hstore =>
    repeat' (first | rfl | refine yab ?_ ?_ | refine yad ?_ ?_ ?_ ?_ | refine yag ?_ | refine yae ?_ | refine yah ?_ | refine yai ?_ | refine yan ?_ ?_ ?_ | refine yaj ?_ ?_ ?_ | refine yak ?_ | refine yaf ?_ ?_ | refine yac ?_ ?_)
    all_goals (first | (simp; done) | omega | (simp; omega))
   case hst =>
    exact ⟨by omega, by rw [hats, hall, hb]; rfl⟩
   case hm => omega
 ·intro hb
  try simp only [hB, decide_eq_true_eq, decide_eq_false_iff_not] at hb
  refine AW.keep [] [] ?_
  try simp only [go_sem, reduceIte, reduceCtorEq, zA, zM, zE, zL, zD, zS, zP, zB, zI, zR]
  refine AW.exit ?_
  rw [← hQl1]
  refine hK2 _ _ _ ?_; clear hK2
  refine AW.seq fun K10 hK10 => ?_
  refine AW.regionK 0 (fun _ => none) [4] [] ?_
  simp only [go_sem, reduceIte, reduceCtorEq, zA, zM, zE, zL, zD, zS, zP, zB, zI, zR, hnl]
  repeat with_reducible refine cj ?_ ?_
  all_goals try first | omega
  refine hK10 _ _ _ ?_; clear hK10
  refine AW.ret ?_
  rw [← hQr]
  simp only [go_sem, reduceIte, reduceCtorEq, zA, zM, zE, zL, zD, zS, zP, zB, zI, zR, hnl]
  exact Wk.of_eq (by rw [List.take_of_length_le (by omega)] at hall; rw [yf6 hall])
theorem ctlong_r (cs : List (List Int)) (hl1 : cs.length ≤ 9223372036854775807) (hl2 : ∀ c ∈ cs, c.length ≤ 9223372036854775807) : Reads Tryd.prog 43 false [.rsl 1 (M.nbR cs), .fn 44 []] (.bool (cs.any yje)) := by
 have h := ixlong_r cs hl1 hl2
 have hge := yli yje cs
 refine Reads.body (rs := [.tmp 4]) Tryd.func43 rfl Tryd.ntmps43 rfl (by simp) ?_
 generalize hQr : retQ _ _ _ = Qr
 refine AW.seq fun K1 hK1 => ?_
 refine AW.regionK 0 (fun _ => none) [0, 1] [] ?_
 simp only [go_sem, reduceIte, reduceCtorEq, zA, zM, zE, zL, zD, zS, zP, zB, zI, zR]
 repeat with_reducible refine cj ?_ ?_
 all_goals try first | omega
 refine hK1 _ _ _ ?_; clear hK1
 refine AW.seq fun K2 hK2 => ?_
 refine AW.regionK 0 (fun ii => if ii = 2 then some (.reads false (.int .i64 (ixf yje cs))) else none) [4] [] ?_
 simp only [go_sem, reduceIte, reduceCtorEq, zA, zM, zE, zL, zD, zS, zP, zB, zI, zR]
 repeat with_reducible refine cj ?_ ?_
 all_goals try first | (exact h) | omega | exact ent (by kernel_rfl)
 refine hK2 _ _ _ ?_; clear hK2
 refine AW.ret ?_
 rw [← hQr]
 simp only [go_sem, reduceIte, reduceCtorEq, zA, zM, zE, zL, zD, zS, zP, zB, zI, zR]
 exact Wk.of_eq (by rw [hge])
def longB (cs : List (List Int)) : Bool := decide ((60 : Int) < cs.length) || cs.any yje
theorem ys8 (cs : List (List Int)) (hl1 : cs.length ≤ 9223372036854775807) (hl2 : ∀ c ∈ cs, c.length ≤ 9223372036854775807) : Reads Tryd.prog 15 false [.rsl 1 (M.nbR cs)] (.bool (longB cs)) := by
 have h := Reads.flat (ctlong_r cs hl1 hl2) rfl
 have hnl := M.nbR_len cs
 refine Reads.body (rs := [.tmp 2]) Tryd.func15 rfl Tryd.ntmps15 rfl (by simp) ?_
 generalize hQr : retQ _ _ _ = Qr
 refine AW.seq fun K1 hK1 => ?_
 refine AW.regionK 0 (fun _ => none) [0] [] ?_
 simp only [go_sem, reduceIte, reduceCtorEq, zA, zM, zE, zL, zD, zS, zP, zB, zI, zR, hnl]
 repeat with_reducible refine cj ?_ ?_
 all_goals try first | omega
 refine hK1 _ _ _ ?_; clear hK1
 refine AW.seq fun K2 hK2 => ?_
 refine AW.regionK 0 (fun ii => if ii = 5 then some (.reads true (.bool (cs.any yje))) else none) [2] [] ?_
 simp only [go_sem, reduceIte, reduceCtorEq, zA, zM, zE, zL, zD, zS, zP, zB, zI, zR, hnl]
 repeat with_reducible refine cj ?_ ?_
 all_goals try first | ((intro hh; exact ⟨hh, h⟩)) | (intros; (repeat' apply And.intro) <;> first | assumption | ((intro hh; exact ⟨hh, h⟩))) | omega | exact ent (by kernel_rfl) | (intro hgd; exact absurd hgd (by decide)) | rfl | (simp only [go_sem, reduceIte, reduceCtorEq, zA, zM, zE, zL, zD, zS, zP, zB, zI, zR, hnl]; done) | (intro _hgd; simp_all [go_sem]; done)
 refine hK2 _ _ _ ?_; clear hK2
 refine AW.ret ?_
 rw [← hQr]
 simp only [go_sem, reduceIte, reduceCtorEq, zA, zM, zE, zL, zD, zS, zP, zB, zI, zR, hnl]
 exact Wk.of_eq (by unfold longB; rfl)
def dPs : List (Int × Int) := [(0, 1), (0, 2), (1, 3), (2, 3), (0, 3)]
def dT : List (List Bool) := putL (ykl 4) dPs
theorem yn7 : dT = [[false, true, true, true], [false, false, false, true], [false, false, false, true], [false, false, false, false]] := by decide +kernel
theorem yr9 : Sq 4 dT := by rw [yn7]; exact ⟨rfl, by decide⟩
theorem diamond_r : Reads Tryd.prog 33 false [] (relB dT) := by
 have h := make_g 4 dPs (by decide) (by decide) (fun p hp => by simp only [dPs, List.mem_cons, List.mem_nil_iff, or_false] at hp; rcases hp with rfl | rfl | rfl | rfl | rfl <;> simp [inP])
 rw [show putL (ykl 4) dPs = dT from rfl] at h
 simp only [dPs, ya8, List.map_cons, List.map_nil] at h
 unfold relB at *
 generalize tabR dT = D at *
 refine Reads.body (rs := [.cell 0 24]) Tryd.func33 rfl Tryd.ntmps33 rfl (by simp) ?_
 generalize hQr : retQ _ _ _ = Qr
 refine AW.seq fun K1 hK1 => ?_
 refine AW.regionK 0 (fun _ => none) [0] [0] ?_
 simp only [go_sem, reduceIte, reduceCtorEq, zA, zM, zE, zL, zD, zS, zP, zB, zI, zR]
 repeat with_reducible refine cj ?_ ?_
 all_goals try first | omega
 refine hK1 _ _ _ ?_; clear hK1
 refine AW.seq fun K2 hK2 => ?_
 refine AW.regionG 0 (fun ii => if ii = 6 then some (.reads false (.tup [.agg [.rsl 2 D], .int .i64 ((0 : Nat) : Int)])) else none) (fun ii => if ii = 6 then some ([9], [9]) else none) [0, 1] [0, 1] ?_
 simp only [go_sem, reduceIte, reduceCtorEq, zA, zM, zE, zL, zD, zS, zP, zB, zI, zR]
 repeat with_reducible refine cj ?_ ?_
 all_goals try first | (exact h) | omega | exact ent (by kernel_rfl)
 refine hK2 _ _ _ ?_; clear hK2
 refine AW.seq fun K3 hK3 => ?_
 refine AW.regionK 0 (fun _ => none) [0] [0] ?_
 simp only [go_sem, reduceIte, reduceCtorEq, zA, zM, zE, zL, zD, zS, zP, zB, zI, zR]
 repeat with_reducible refine cj ?_ ?_
 all_goals try first | omega
 refine hK3 _ _ _ ?_; clear hK3
 refine AW.ret ?_
 rw [← hQr]
 simp only [go_sem, reduceIte, reduceCtorEq, zA, zM, zE, zL, zD, zS, zP, zB, zI, zR]
 exact Wk.refl _
end Go.Proofs.W

namespace Go.Proofs.W
open Go.AM Go
set_option maxRecDepth 100000
set_option maxHeartbeats 2000000
theorem ysa {l : List Int} {B : Int} (hB : 0 ≤ B) (h : ∀ x ∈ l, 0 ≤ x ∧ x ≤ B) : ∀ j, 0 ≤ mxU l j ∧ mxU l j ≤ B
 | 0 => by
  unfold mxU
  by_cases h0 : 0 < l.length
  ·exact h _ (ybp h0 0)
  ·rw [getD_out (by omega)]; omega
 | j + 1 => by
  have ih := ysa hB h j
  unfold mxU
  have : 0 ≤ l.getD (j + 1) 0 ∧ l.getD (j + 1) 0 ≤ B := by
   by_cases h0 : j + 1 < l.length
   ·exact h _ (ybp h0 0)
   ·rw [getD_out (by omega)]; omega
  omega
theorem ysb : poB 4 dT = true := by rw [yn7]; decide +kernel
theorem yqd : (yas dT 4).length ≤ 2000 := by rw [yn7]; decide +kernel
theorem ysc : levO 4 dT = [0, 1, 1, 2] := by rw [yn7]; decide +kernel
theorem dT_w : (chainsT 4 dT).length = 2 := by rw [yn7]; decide +kernel
theorem dT_h : ymt 4 dT = 3 := by unfold ymt; rw [ysc]; decide +kernel
theorem dT_c1 : chainB 4 dT [0, 1, 3] = true := by rw [yn7]; decide +kernel
theorem dT_c2 : chainB 4 dT [1, 2] = false := by rw [yn7]; decide +kernel
theorem dT_a : antiB dT [false, true, true, false] = true := by rw [yn7]; decide +kernel
theorem dT_s : setW [false, true, true, false] 4 = [6] := by decide +kernel
theorem ysd : Reads Tryd.prog 8 false [] (.bool true) := by
 have hd := diamond_r
 have hw := width_g 4 dT yr9 (by decide) ysb yqd
 have hh := height_g 4 dT yr9 (by decide) ysb yqd (by rw [ysc]; rfl) (fun j => by have := ysa (l := levO 4 dT) (B := 4) (by decide) (by rw [ysc]; decide) j; omega)
 have h1 := Reads.flat (ykv 4 dT yr9 (by decide) ysb [0, 1, 3] (by decide)) rfl
 have h2 := Reads.flat (ykv 4 dT yr9 (by decide) ysb [1, 2] (by decide)) rfl
 have h3 := Reads.flat (yp3 4 dT yr9 (by decide) ysb [false, true, true, false] rfl) rfl
 rw [dT_w] at hw
 rw [dT_h] at hh
 rw [dT_c1] at h1
 rw [dT_c2] at h2
 rw [dT_a, dT_s] at h3
 simp only [ints, words, List.map_cons, List.map_nil] at h1 h2 h3
 unfold relB at *
 generalize tabR dT = D at *
 refine Reads.body (rs := [.tmp 0]) Tryd.func8 rfl Tryd.ntmps8 rfl (by simp) ?_
 generalize hQr : retQ _ _ _ = Qr
 refine AW.seq fun K1 hK1 => ?_
 refine AW.regionK 0 (fun _ => none) [] [] ?_
 simp only [go_sem, reduceIte, reduceCtorEq, zA, zM, zE, zL, zD, zS, zP, zB, zI, zR, decide_true, eq_self]
 repeat with_reducible refine cj ?_ ?_
 all_goals try first | omega
 refine hK1 _ _ _ ?_; clear hK1
 refine AW.seq fun K2 hK2 => ?_
 refine AW.regionK 0 (fun ii => if ii = 0 then some (.reads false (.agg [.rsl 2 D])) else if ii = 1 then some (.reads false (.tup [.int .i64 ((2 : Nat) : Int), .int .i64 0])) else none) [1, 2] [] ?_
 simp only [go_sem, reduceIte, reduceCtorEq, zA, zM, zE, zL, zD, zS, zP, zB, zI, zR, decide_true, eq_self]
 repeat with_reducible refine cj ?_ ?_
 all_goals try first | (first | exact hd | exact hw) | omega | exact ent (by kernel_rfl)
 refine hK2 _ _ _ ?_; clear hK2
 refine AW.seq fun K3 hK3 => ?_
 refine AW.regionK 0 (fun ii => if ii = 0 then some (.reads false (.agg [.rsl 2 D])) else if ii = 1 then some (.reads false (.tup [.int .i64 3, .int .i64 0])) else none) [1, 2, 3, 4] [] ?_
 simp only [go_sem, reduceIte, reduceCtorEq, zA, zM, zE, zL, zD, zS, zP, zB, zI, zR, decide_true, eq_self]
 repeat with_reducible refine cj ?_ ?_
 all_goals try first | (first | exact hd | exact hh) | omega | exact ent (by kernel_rfl)
 refine hK3 _ _ _ ?_; clear hK3
 refine AW.seq fun K4 hK4 => ?_
 refine AW.regionK 0 (fun ii => if ii = 15 then some (.reads false (.agg [.rsl 2 D])) else if ii = 17 then some (.reads true (.bool true)) else if ii = 20 then some (.reads false (.agg [.rsl 2 D])) else if ii = 22 then some (.reads true (.bool false)) else if ii = 26 then some (.reads false (.agg [.rsl 2 D])) else if ii = 29 then some (.reads true (.bool true)) else none) [0] [] ?_
 simp only [go_sem, reduceIte, reduceCtorEq, zA, zM, zE, zL, zD, zS, zP, zB, zI, zR, decide_true, eq_self]
 repeat with_reducible refine cj ?_ ?_
 all_goals try first | (first | exact hd | exact h1 | exact h2 | exact h3) | (intros; (repeat' apply And.intro) <;> first | assumption | (first | exact hd | exact h1 | exact h2 | exact h3)) | omega | exact ent (by kernel_rfl) | (intro hgd; exact absurd hgd (by decide)) | rfl | (simp only [go_sem, reduceIte, reduceCtorEq, zA, zM, zE, zL, zD, zS, zP, zB, zI, zR, decide_true, eq_self]; done) | (intro _hgd; simp_all [go_sem]; done)
 refine hK4 _ _ _ ?_; clear hK4
 refine AW.ret ?_
 rw [← hQr]
 simp only [go_sem, reduceIte, reduceCtorEq, zA, zM, zE, zL, zD, zS, zP, zB, zI, zR, decide_true, eq_self]
 exact Wk.refl _
end Go.Proofs.W

namespace Go.Proofs.W
open Go.AM Go
set_option maxRecDepth 100000
set_option maxHeartbeats 2000000
theorem longB_bnd {cs : List (List Int)} (h : longB cs = false) : cs.length ≤ 60 ∧ ∀ c ∈ cs, c.length ≤ 60 := by
 unfold longB at h
 rw [Bool.or_eq_false_iff] at h
 refine ⟨by have := of_decide_eq_false h.1; omega, fun c hc => ?_⟩
 have h2 := h.2
 rw [List.any_eq_false] at h2
 have := h2 c hc
 unfold yje at this
 simp only [decide_eq_true_eq] at this
 omega
end Go.Proofs.W

/- Neighbors out of a table; the size of a maximum matching. -/
namespace Go.AM
theorem Mch.nb {n m : Nat} {nb nb' : List (List Int)} {L R : List Int} (h : Mch n m nb L R) (hm : ∀ l r, r ∈ nbl nb l → r ∈ nbl nb' l) : Mch n m nb' L R :=
  ⟨h.hL, h.hR, h.hRn, h.hLm, h.hC, fun l hl => hm _ _ (h.hE l hl)⟩
theorem NoAug.nb {n : Nat} {nb nb' : List (List Int)} {L R : List Int} (h : NoAug nb n L R) (hm : ∀ l r, r ∈ nbl nb' l → r ∈ nbl nb l) : NoAug nb' n L R := by
  obtain ⟨T, h1, h2⟩ := h
  exact ⟨T, fun r hr => ⟨(h1 r hr).1, fun x hx => (h1 r hr).2 x (hm _ _ hx)⟩, fun l hl hf r hr => h2 l hl hf r (hm _ _ hr)⟩
end Go.AM

namespace Go.Proofs.W
open Go.AM Go
set_option maxRecDepth 100000
set_option maxHeartbeats 2000000
end Go.Proofs.W

/- One augmentation of a matching. -/
namespace Go.AM
structure Grown (n m : Nat) (nb : List (List Int)) (L R L' R' : List Int) : Prop where
  hM : Mch n m nb L' R'
  hL : ∃ l, l < n ∧ gi L l < 0 ∧ ∀ l', 0 ≤ gi L' l' ↔ (0 ≤ gi L l' ∨ l' = l)
  hR : ∀ r, 0 ≤ gi R r → 0 ≤ gi R' r
theorem Grown.count {n m : Nat} {nb : List (List Int)} {L R L' R' : List Int} (h : Grown n m nb L R L' R') : cnt (pL L') n = cnt (pL L) n + 1 := by
  obtain ⟨l, h1, h2, h3⟩ := h.hL
  have e : ∀ i, pL L' i = (pL L i || decide (i = l)) := fun i => by
    have := h3 i
    simp only [pL]
    rw [← Bool.decide_or]
    exact decide_eq_decide.2 this
  rw [show pL L' = fun i => pL L i || decide (i = l) from funext e]
  have hp : pL L l = false := by simp [pL]; omega
  clear h2 h3 e h
  have : ∀ n, cnt (fun i => pL L i || decide (i = l)) n = cnt (pL L) n + if l < n then 1 else 0 := by
    intro n
    induction n with
    | zero => rfl
    | succ n ih =>
      rw [yci, yci, ih]
      by_cases e : n = l
      · subst e; rw [hp]; simp
      · simp only [e, decide_false, Bool.or_false]
        have h1 : (if l < n then 1 else 0) = (if l < n + 1 then 1 else (0 : Nat)) := by split <;> split <;> omega
        rw [h1]; omega
  rw [this, if_pos h1]
end Go.AM

namespace Go.Proofs.W
open Go.AM Go
set_option maxRecDepth 100000
set_option maxHeartbeats 2000000
end Go.Proofs.W

/- The reference's heights: rounds over all pairs. -/
namespace Go.AM
structure HgtI (n : Nat) (t : List (List Bool)) (L : List Int) (r : Nat) (vi : Nat → Prop) (vis : Nat → Nat → Prop) (o : List Int) : Prop where
  len : o.length = n
  pos : ∀ j, j < n → 0 ≤ o.getD j 0
  le : ∀ j, j < n → o.getD j 0 ≤ L.getD j 0 + 1
  low : ∀ j, j < n → min (L.getD j 0 + 1) r ≤ o.getD j 0
  one : ∀ i, i < n → vi i → 1 ≤ o.getD i 0
  nxt : ∀ i j, i < n → j < n → vis i j → atT t i j = true → min (L.getD i 0 + 1) r + 1 ≤ o.getD j 0
theorem HgtI.start {n : Nat} {t : List (List Bool)} {L : List Int} (hL : IsLev n t L) : HgtI n t L 0 (fun _ => False) (fun _ _ => False) (List.replicate n 0) := by
  have e : ∀ j, (List.replicate n (0 : Int)).getD j 0 = 0 := fun j => by rw [List.getD_eq_getElem?_getD, List.getElem?_replicate]; split <;> rfl
  refine ⟨by simp, fun j _ => by rw [e]; exact Int.le_refl _, fun j hj => by rw [e]; have := hL.pos j hj; omega, fun j hj => ?_, fun _ _ h => h.elim, fun _ _ _ _ h => h.elim⟩
  rw [e]; have := hL.pos j hj; omega
theorem HgtI.bump {n : Nat} {t : List (List Bool)} {L : List Int} {r : Nat} {vi : Nat → Prop} {vis : Nat → Nat → Prop} {o : List Int} (h : HgtI n t L r vi vis o) {k : Nat} (hk : k < n) {v : Int} (h1 : o.getD k 0 ≤ v) (h2 : v ≤ L.getD k 0 + 1) : HgtI n t L r vi vis (o.set k v) := by
  have hg : ∀ j, (o.set k v).getD j 0 = if j = k then v else o.getD j 0 := fun j => by
    by_cases e : j = k
    · subst e; rw [if_pos rfl]; exact Go.AM.getD_set_eq (by rw [h.len]; exact hk) _ _
    · rw [if_neg e]; exact Go.AM.getD_set_ne (fun q => e q.symm) ..
  have hge : ∀ j, o.getD j 0 ≤ (o.set k v).getD j 0 := fun j => by rw [hg]; split; (rename_i e; subst e; omega); exact Int.le_refl _
  refine ⟨by simp [h.len], fun j hj => Int.le_trans (h.pos j hj) (hge j), fun j hj => ?_, fun j hj => Int.le_trans (h.low j hj) (hge j), fun i hi hv => Int.le_trans (h.one i hi hv) (hge i), fun i j hi hj hv ha => Int.le_trans (h.nxt i j hi hj hv ha) (hge j)⟩
  rw [hg]
  split
  · rename_i e; subst e; exact h2
  · exact h.le j hj
theorem HgtI.put {n : Nat} {t : List (List Bool)} {L : List Int} (hL : IsLev n t L) {r : Nat} {vi : Nat → Prop} {vis vis' : Nat → Nat → Prop} {o : List Int} (h : HgtI n t L r vi vis o) {i j : Nat} (hi : i < n) (hj : j < n) (ht : atT t i j = true) (hv : ∀ a b, vis' a b → vis a b ∨ (a = i ∧ b = j)) :
    HgtI n t L r vi vis' (o.set j (max (o.getD j 0) (o.getD i 0 + 1))) := by
  have hb := h.bump hj (v := max (o.getD j 0) (o.getD i 0 + 1)) (by omega) (by have := h.le i hi; have := h.le j hj; have := hL.up i j hi hj ht; omega)
  refine ⟨hb.len, hb.pos, hb.le, hb.low, hb.one, fun a b ha hb2 hab hat => ?_⟩
  rcases hv a b hab with h1 | ⟨rfl, rfl⟩
  · exact hb.nxt a b ha hb2 h1 hat
  · rw [Go.AM.getD_set_eq (by rw [h.len]; exact hj)]
    have := h.low a ha
    omega
theorem HgtI.skip {n : Nat} {t : List (List Bool)} {L : List Int} {r : Nat} {vi vi' : Nat → Prop} {vis vis' : Nat → Nat → Prop} {o : List Int} (h : HgtI n t L r vi vis o) (hv : ∀ a, vi' a → vi a) (hv2 : ∀ a b, a < n → b < n → atT t a b = true → vis' a b → vis a b) : HgtI n t L r vi' vis' o :=
  ⟨h.len, h.pos, h.le, h.low, fun a ha hva => h.one a ha (hv a hva), fun a b ha hb hab hat => h.nxt a b ha hb (hv2 a b ha hb hat hab) hat⟩
theorem HgtI.next {n : Nat} {t : List (List Bool)} {L : List Int} (hL : IsLev n t L) {r : Nat} {vi : Nat → Prop} {vis : Nat → Nat → Prop} {o : List Int} (h : HgtI n t L r vi vis o) (hv : ∀ i, i < n → vi i) (hv2 : ∀ i j, i < n → j < n → vis i j) : HgtI n t L (r + 1) (fun _ => False) (fun _ _ => False) o := by
  refine ⟨h.len, h.pos, h.le, fun j hj => ?_, fun _ _ hh => hh.elim, fun _ _ _ _ hh => hh.elim⟩
  rcases hL.att j hj with h0 | ⟨i, hi, ha, he⟩
  · have := h.one j hj (hv j hj); omega
  · have := h.nxt i j hi hj (hv2 i j hi hj) ha; omega
end Go.AM

namespace Go.Proofs.W
open Go.AM Go
set_option maxRecDepth 100000
set_option maxHeartbeats 2000000
end Go.Proofs.W

/- Antichains, chains and matchings of an order. -/
namespace Go.AM
/-- An antichain leaves out an end of each pair of a matching. -/
theorem anti_le {n : Nat} {t : List (List Bool)} (hp : IsPo n t) {L R : List Int} (hM : Mch n n (nbOf n (yas t n)) L R) (hE : ∀ e ∈ yas t n, ycd n n e = true) (X : Nat → Bool) (hX : ∀ i j, i < n → j < n → X i = true → X j = true → atT t i j = false) : cnt X n + cnt (pL L) n ≤ n := by
  have hstep : ∀ i, i < n → 0 ≤ gi L i → (gi L i).toNat < n ∧ atT t i (gi L i).toNat = true := fun i hi h0 => by
    have h1 := (ycw hE i _).1 (hM.hE i h0)
    obtain ⟨a, b, e, ha, hb, hab⟩ := pairsT_mem.1 h1
    simp only [Prod.mk.injEq] at e
    have e1 : i = a := by omega
    have e2 : (gi L i).toNat = b := by omega
    rw [e1] at *
    exact ⟨by omega, by rw [e2]; exact hab⟩
  let D : Nat → Bool := fun i => X i || (List.range n).any fun x => X x && atT t x i
  have hD : ∀ i, D i = true ↔ X i = true ∨ ∃ x, x < n ∧ X x = true ∧ atT t x i = true := fun i => by
    simp only [D, Bool.or_eq_true, List.any_eq_true, List.mem_range, Bool.and_eq_true]
  have h := yfv (p := pL L) (q := fun i => !X i) (n := n) (m := n) (fun i => if D i = true then (gi L i).toNat else i) (fun i hi hpi => by
    simp only [pL, decide_eq_true_eq] at hpi
    obtain ⟨h1, h2⟩ := hstep i hi hpi
    by_cases hd : D i = true
    · simp only [hd, if_true]
      refine ⟨h1, ?_⟩
      cases hx : X (gi L i).toNat with
      | false => rfl
      | true =>
        exfalso
        rcases (hD i).1 hd with h3 | ⟨x, h3, h4, h5⟩
        · have := hX i _ hi h1 h3 hx; rw [h2] at this; cases this
        · have := hX x _ h3 h1 h4 hx; rw [hp.trans x i _ h3 hi h1 h5 h2] at this; cases this
    · simp only [hd]
      refine ⟨by simpa using hi, ?_⟩
      have hxi : X i = false := by
        cases hx : X i with
        | false => rfl
        | true => exact absurd ((hD i).2 (.inl hx)) hd
      simp [hxi]) (fun i j hi hj hpi hpj e => by
    simp only [pL, decide_eq_true_eq] at hpi hpj
    obtain ⟨h1, h2⟩ := hstep i hi hpi
    obtain ⟨h3, h4⟩ := hstep j hj hpj
    have up : ∀ a b, a < n → b < n → D a = true → atT t a b = true → D b = true := fun a b ha hb hda hab => by
      rcases (hD a).1 hda with h5 | ⟨x, h5, h6, h7⟩
      · exact (hD b).2 (.inr ⟨a, ha, h5, hab⟩)
      · exact (hD b).2 (.inr ⟨x, h5, h6, hp.trans x a b h5 ha hb h7 hab⟩)
    by_cases hdi : D i = true <;> by_cases hdj : D j = true
    · simp only [hdi, hdj, if_true] at e
      have k1 := (hM.hC i (gi L i).toNat).1 (by omega)
      have k2 := (hM.hC j (gi L i).toNat).1 (by omega)
      omega
    · simp only [hdi, hdj, if_true] at e
      simp at e
      exfalso
      exact hdj (by rw [← e]; exact up i _ hi h1 hdi h2)
    · simp only [hdi, hdj, if_true] at e
      simp at e
      exfalso
      exact hdi (by rw [e]; exact up j _ hj h3 hdj h4)
    · simp only [hdi, hdj] at e
      simpa using e)
  have := ymr X n
  omega
end Go.AM

namespace Go.Proofs.W
open Go.AM Go
set_option maxRecDepth 100000
set_option maxHeartbeats 2000000
def antI (A B : List Bool) (j : Nat) : List Int := ((List.range j).filter fun i => !A.getD i false && !B.getD i false).map fun (i : Nat) => (i : Int)
theorem antI_succ (A B : List Bool) (j : Nat) : antI A B (j + 1) = if (!A.getD j false && !B.getD j false) = true then antI A B j ++ [(j : Int)] else antI A B j := by
 unfold antI
 rw [List.range_succ, List.filter_append, List.map_append]
 by_cases h : (!A.getD j false && !B.getD j false) = true
 ·rw [if_pos h]; simp only [List.filter_cons, h, if_true, List.filter_nil, List.map_cons, List.map_nil]
 ·rw [if_neg h]; simp only [List.filter_cons, h, if_false, List.filter_nil, List.map_nil, List.append_nil]; simp
theorem yse (A B : List Bool) (j : Nat) : (antI A B j).length ≤ j := by
 unfold antI
 rw [List.length_map]
 have := List.length_filter_le (fun i => !A.getD i false && !B.getD i false) (List.range j)
 simpa using this
theorem yqe (A B : List Bool) (j : Nat) (x : Int) : x ∈ antI A B j ↔ ∃ i : Nat, x = i ∧ i < j ∧ A.getD i false = false ∧ B.getD i false = false := by
 simp only [antI, List.mem_map, List.mem_filter, List.mem_range, Bool.and_eq_true, Bool.not_eq_true']
 constructor
 ·rintro ⟨i, ⟨h1, h2⟩, rfl⟩; exact ⟨i, rfl, h1, h2⟩
 ·rintro ⟨i, rfl, h1, h2⟩; exact ⟨i, ⟨h1, h2⟩, rfl⟩
def antF (n : Nat) (t : List (List Bool)) : List Bool := rowL n (antI (M.cvL n n (yas t n)) (M.cvR n n (yas t n)) n)
theorem antic_g (n : Nat) (t : List (List Bool)) (hs : Sq n t) (hn : n ≤ 512) (hp : poB n t = true) (hl : (yas t n).length ≤ 2000) : Reads Tryd.prog 29 false [relB t] (.tup [.agg [.int .i64 n, .rsl 1 (words (setW (antF n t) n))], .int .i64 0]) := by
 have he := yos n t hs hn hp
 rw [if_pos hl] at he
 have hg := gdT hn hl
 have hco := M.cover_good hg
 have htl : (tabR t).length = n := by rw [ybw, hs.len]
 have hA : (M.cvL n n (yas t n)).length = n := ycv _ _
 have hB2 : (M.cvR n n (yas t n)).length = n := ycv _ _
 have hh1 := yrr (M.cvL n n (yas t n)) (by omega)
 have hh2 := yrr (M.cvR n n (yas t n)) (by omega)
 unfold rowB at hh1 hh2
 rw [hA] at hh1
 rw [hB2] at hh2
 unfold antF
 generalize M.cvL n n (yas t n) = A at *
 generalize M.cvR n n (yas t n) = B at *
 generalize hWA : setW A n = WA at *
 generalize hWB : setW B n = WB at *
 unfold relB at *
 refine Reads.body (rs := [.cell 2 27, .tmp 3]) Tryd.func29 rfl Tryd.ntmps29 rfl (by simp) ?_
 generalize hQr : retQ _ _ _ = Qr
 refine AW.seq fun K1 hK1 => ?_
 refine AW.regionK 0 (fun _ => none) [1, 2] [1, 2] ?_
 simp only [go_sem, reduceIte, reduceCtorEq, zA, zM, zE, zL, zD, zS, zP, zB, zI, zR, htl, yaa]
 repeat with_reducible refine cj ?_ ?_
 all_goals try first | omega
 refine hK1 _ _ _ ?_; clear hK1
 refine AW.seq fun K2 hK2 => ?_
 refine AW.regionK 0 (fun ii => if ii = 1 then some (.reads false (.tup [.rsl 2 ((yas t n).map ya8), .int .i64 0])) else none) [1, 2, 4, 5] [1, 2] ?_
 simp only [go_sem, reduceIte, reduceCtorEq, zA, zM, zE, zL, zD, zS, zP, zB, zI, zR, htl, yaa]
 repeat with_reducible refine cj ?_ ?_
 all_goals try first | (exact he) | omega | exact ent (by kernel_rfl)
 refine hK2 _ _ _ ?_; clear hK2
 refine AW.seq fun K3 hK3 => ?_
 refine AW.seq fun K4 hK4 => ?_
 refine AW.regionK 0 (fun _ => none) [1, 2, 4, 5, 17] [1, 2] ?_
 simp only [go_sem, reduceIte, reduceCtorEq, zA, zM, zE, zL, zD, zS, zP, zB, zI, zR, htl, yaa]
 repeat with_reducible refine cj ?_ ?_
 all_goals try first | omega
 refine hK4 _ _ _ ?_; clear hK4
 refine AW.cond rfl (by simp only [go_sem, reduceIte, reduceCtorEq, zA, zM, zE, zL, zD, zS, zP, zB, zI, zR]) ?_ ?_
 ·intro hb
  try simp only [hB, decide_eq_true_eq, decide_eq_false_iff_not] at hb
  exfalso; simp at hb
 ·intro hb
  try simp only [hB, decide_eq_true_eq, decide_eq_false_iff_not] at hb
  refine AW.skip ?_
  refine hK3 _ _ _ ?_; clear hK3
  refine AW.seq fun K5 hK5 => ?_
  refine AW.regionK 0 (fun _ => none) [2, 4, 6] [2] ?_
  simp only [go_sem, reduceIte, reduceCtorEq, zA, zM, zE, zL, zD, zS, zP, zB, zI, zR, htl, yaa]
  repeat with_reducible refine cj ?_ ?_
  all_goals try first | omega
  refine hK5 _ _ _ ?_; clear hK5
  refine AW.seq fun K6 hK6 => ?_
  refine AW.regionK 0 (fun ii => if ii = 3 then some (.reads false (.tup [.agg [.int .i64 n, .rsl 1 (words WA)], .agg [.int .i64 n, .rsl 1 (words WB)], .int .i64 0])) else none) [2, 5, 6, 7, 8] [2, 7, 8] ?_
  simp only [go_sem, reduceIte, reduceCtorEq, zA, zM, zE, zL, zD, zS, zP, zB, zI, zR, htl, yaa]
  repeat with_reducible refine cj ?_ ?_
  all_goals try first | (exact hco) | omega | exact ent (by kernel_rfl)
  refine hK6 _ _ _ ?_; clear hK6
  refine AW.seq fun K7 hK7 => ?_
  refine AW.seq fun K8 hK8 => ?_
  refine AW.regionK 0 (fun _ => none) [2, 5, 6, 7, 8, 32] [2, 7, 8] ?_
  simp only [go_sem, reduceIte, reduceCtorEq, zA, zM, zE, zL, zD, zS, zP, zB, zI, zR, htl, yaa]
  repeat with_reducible refine cj ?_ ?_
  all_goals try first | omega
  refine hK8 _ _ _ ?_; clear hK8
  refine AW.cond rfl (by simp only [go_sem, reduceIte, reduceCtorEq, zA, zM, zE, zL, zD, zS, zP, zB, zI, zR]) ?_ ?_
  ·intro hb
   try simp only [hB, decide_eq_true_eq, decide_eq_false_iff_not] at hb
   exfalso; simp at hb
  ·intro hb
   try simp only [hB, decide_eq_true_eq, decide_eq_false_iff_not] at hb
   refine AW.skip ?_
   refine hK7 _ _ _ ?_; clear hK7
   refine AW.seq fun K9 hK9 => ?_
   refine AW.regionK 0 (fun _ => none) [2, 6, 7, 8, 9] [2, 7, 8] ?_
   simp only [go_sem, reduceIte, reduceCtorEq, zA, zM, zE, zL, zD, zS, zP, zB, zI, zR, htl, yaa]
   repeat with_reducible refine cj ?_ ?_
   all_goals try first | omega
   refine hK9 _ _ _ ?_; clear hK9
   refine AW.seq fun K10 hK10 => ?_
   refine AW.seq fun K11 hK11 => ?_
   refine AW.regionK 0 (fun _ => none) [2, 6, 7, 8, 9, 35, 36] [2, 7, 8] ?_
   simp only [go_sem, reduceIte, reduceCtorEq, zA, zM, zE, zL, zD, zS, zP, zB, zI, zR, htl, yaa]
   repeat with_reducible refine cj ?_ ?_
   all_goals try first | omega
   refine hK11 _ _ _ ?_; clear hK11
   refine AW.block ?_
   refine AW.nilOwn 9 200 1 (by simp only [go_sem, reduceIte, zE]) ?_
   refine AW.keep [2, 6, 7, 8, 9, 35, 36] [2, 7, 8, 200] ?_
   simp only [go_sem, reduceIte, zE]
   refine AW.loopE (fun mm ee ss kk => ∃ (j g2 v2 g7 v7 g8 v8 g v : Nat), n - j = mm ∧ ee = [(2, .ptr ⟨2, g2, none⟩ 0 0), (6, .int .i64 n), (7, .ptr ⟨7, g7, none⟩ 0 0), (8, .ptr ⟨8, g8, none⟩ 0 0), (9, .sl ⟨200, g, none⟩ 0 (antI A B j).length none), (35, .int .i64 n), (36, .int .i64 (j : Nat))] ∧ ss = [(2, some ⟨g2, v2, 2, [[.int .i64 0, .nilsl]]⟩), (7, some ⟨g7, v7, 2, [[.int .i64 n, .rsl 1 (words WA)]]⟩), (8, some ⟨g8, v8, 2, [[.int .i64 n, .rsl 1 (words WB)]]⟩), (200, some ⟨g, v, 1, ints (antI A B j)⟩)] ∧ (j ≤ n)) ?_ ?_
   ·refine ⟨_, 0, ?_, ?_, ?_, ?_, ?_, ?_, ?_, ?_, rfl, ?henv, ?hstore, ?hst⟩
    case henv =>
     repeat' (first | rfl | refine yab ?_ ?_ | refine yad ?_ ?_ ?_ ?_ | refine yag ?_ | refine yae ?_ | refine yah ?_ | refine yai ?_ | refine yan ?_ ?_ ?_ | refine yaj ?_ ?_ ?_ | refine yak ?_ | refine yaf ?_ ?_ | refine yac ?_ ?_)
     all_goals (first | (simp; done) | omega | (simp; omega))
    case hstore =>
     repeat' (first | rfl | refine yab ?_ ?_ | refine yad ?_ ?_ ?_ ?_ | refine yag ?_ | refine yae ?_ | refine yah ?_ | refine yai ?_ | refine yan ?_ ?_ ?_ | refine yaj ?_ ?_ ?_ | refine yak ?_ | refine yaf ?_ ?_ | refine yac ?_ ?_)
     all_goals (first | (simp; done) | omega | (simp; omega))
    case hst =>
     first | trivial | omega | (simp; done) | (simp; omega)
   rintro mm ee ss kk ⟨j, g2, v2, g7, v7, g8, v8, g, v, rfl, rfl, rfl, hI⟩
   generalize hQl1 : ybb _ _ = Ql1
   refine AW.seq fun K12 hK12 => ?_
   refine AW.regionK 0 (fun _ => none) [2, 6, 7, 8, 9, 35, 36, 37] [2, 7, 8, 200] ?_
   simp only [go_sem, reduceIte, reduceCtorEq, zA, zM, zE, zL, zD, zS, zP, zB, zI, zR, htl, yaa]
   repeat with_reducible refine cj ?_ ?_
   all_goals try first | omega
   refine hK12 _ _ _ ?_; clear hK12
   refine AW.seq fun K13 hK13 => ?_
   refine AW.cond rfl (by simp only [go_sem, reduceIte, reduceCtorEq, zA, zM, zE, zL, zD, zS, zP, zB, zI, zR]) ?_ ?_
   ·intro hb
    try simp only [hB, decide_eq_true_eq, decide_eq_false_iff_not] at hb
    have hx1 := hh1 (j : Int)
    have hx2 := hh2 (j : Int)
    rw [decide_eq_true (by omega : (0 : Int) ≤ j), decide_eq_true (by omega : (j : Int) < (n : Int)), Int.toNat_natCast, Bool.true_and, Bool.true_and] at hx1 hx2
    have hsu := antI_succ A B j
    have hle := yse A B j
    have htk : (ints (antI A B j)).take (antI A B j).length = ints (antI A B j) := List.take_of_length_le (by rw [yaa]; exact Nat.le_refl _)
    have hsn : ints (antI A B j) ++ [[.int .i64 (j : Int)]] = ints (antI A B j ++ [(j : Int)]) := by simp [ints]
    generalize hP : antI A B j = P at *
    refine AW.skip ?_
    refine hK13 _ _ _ ?_; clear hK13
    refine AW.seq fun K14 hK14 => ?_
    refine AW.block ?_
    refine AW.seq fun K15 hK15 => ?_
    refine AW.regionK 0 (fun _ => none) [2, 6, 7, 8, 9, 10, 35, 36] [2, 7, 8, 200] ?_
    simp only [go_sem, reduceIte, reduceCtorEq, zA, zM, zE, zL, zD, zS, zP, zB, zI, zR, htl, yaa]
    repeat with_reducible refine cj ?_ ?_
    all_goals try first | omega
    refine hK15 _ _ _ ?_; clear hK15
    refine AW.seq fun K16 hK16 => ?_
    refine AW.regionK 0 (fun ii => if ii = 2 then some (.reads false (.bool (A.getD j false))) else if ii = 7 then some (.reads false (.bool (B.getD j false))) else none) [2, 6, 7, 8, 9, 10, 35, 36, 48] [2, 7, 8, 200] ?_
    simp only [go_sem, reduceIte, reduceCtorEq, zA, zM, zE, zL, zD, zS, zP, zB, zI, zR, htl, yaa]
    repeat with_reducible refine cj ?_ ?_
    all_goals try first | (first | exact hx1 | exact hx2 | (intro hh; exact ⟨hh, hx2⟩)) | (intros; (repeat' apply And.intro) <;> first | assumption | (first | exact hx1 | exact hx2 | (intro hh; exact ⟨hh, hx2⟩))) | omega | exact ent (by kernel_rfl) | (intro hgd; exact absurd hgd (by decide)) | rfl | (simp only [go_sem, reduceIte, reduceCtorEq, zA, zM, zE, zL, zD, zS, zP, zB, zI, zR, htl, yaa]; done) | (intro _hgd; simp_all [go_sem]; done)
    refine hK16 _ _ _ ?_; clear hK16
    refine AW.cond rfl (by simp only [go_sem, reduceIte, reduceCtorEq, zA, zM, zE, zL, zD, zS, zP, zB, zI, zR]) ?_ ?_
    ·intro hb
     try simp only [hB, decide_eq_true_eq, decide_eq_false_iff_not] at hb
     rw [if_pos (by simpa using hb)] at hsu
     refine AW.regionK 0 (fun _ => none) [2, 6, 7, 8, 9, 35, 36] [2, 7, 8, 200] ?_
     simp only [go_sem, reduceIte, reduceCtorEq, zA, zM, zE, zL, zD, zS, zP, zB, zI, zR, htl, yaa, htk, hsn]
     repeat with_reducible refine cj ?_ ?_
     all_goals try first | omega | (simp [scP, ybk]; done) | exact ybe _ | exact ybh _ | exact ybf _
     refine hK14 _ _ _ ?_; clear hK14
     refine AW.regionK 0 (fun _ => none) [2, 6, 7, 8, 9, 35, 36] [2, 7, 8, 200] ?_
     simp only [go_sem, reduceIte, reduceCtorEq, zA, zM, zE, zL, zD, zS, zP, zB, zI, zR, htl, yaa]
     repeat with_reducible refine cj ?_ ?_
     all_goals try first | omega
     rw [← hQl1]
     change Exists _
     refine ⟨_, ?hm, j + 1, ?_, ?_, ?_, ?_, ?_, ?_, ?_, ?_, rfl, ?henv, ?hstore, ?hst⟩
     case henv =>
      repeat' (first | rfl | refine yab ?_ ?_ | refine yad ?_ ?_ ?_ ?_ | refine yag ?_ | refine yae ?_ | refine yah ?_ | refine yai ?_ | refine yan ?_ ?_ ?_ | refine yaj ?_ ?_ ?_ | refine yak ?_ | refine yaf ?_ ?_ | refine yac ?_ ?_)
      all_goals (first | (rw [hsu]; done) | (rw [hsu]; simp; done) | omega | (simp; done))
     case hstore =>
      repeat' (first | rfl | refine yab ?_ ?_ | refine yad ?_ ?_ ?_ ?_ | refine yag ?_ | refine yae ?_ | refine yah ?_ | refine yai ?_ | refine yan ?_ ?_ ?_ | refine yaj ?_ ?_ ?_ | refine yak ?_ | refine yaf ?_ ?_ | refine yac ?_ ?_)
      all_goals (rw [hsu])
     case hst =>
      first | trivial | omega | (simp; done) | (simp; omega)
     case hm => omega
    ·intro hb
     try simp only [hB, decide_eq_true_eq, decide_eq_false_iff_not] at hb
     rw [if_neg (fun hh => by simp only [Bool.and_eq_true, Bool.not_eq_true'] at hh; rcases hb with hb | hb; exact absurd (hb.symm.trans hh.1) (by simp); exact absurd (hb.symm.trans hh.2) (by simp))] at hsu
     refine AW.skip ?_
     refine hK14 _ _ _ ?_; clear hK14
     refine AW.regionK 0 (fun _ => none) [2, 6, 7, 8, 9, 35, 36] [2, 7, 8, 200] ?_
     simp only [go_sem, reduceIte, reduceCtorEq, zA, zM, zE, zL, zD, zS, zP, zB, zI, zR, htl, yaa]
     repeat with_reducible refine cj ?_ ?_
     all_goals try first | omega
     rw [← hQl1]
     change Exists _
     refine ⟨_, ?hm, j + 1, ?_, ?_, ?_, ?_, ?_, ?_, ?_, ?_, rfl, ?henv, ?hstore, ?hst⟩
     case henv =>
      repeat' (first | rfl | refine yab ?_ ?_ | refine yad ?_ ?_ ?_ ?_ | refine yag ?_ | refine yae ?_ | refine yah ?_ | refine yai ?_ | refine yan ?_ ?_ ?_ | refine yaj ?_ ?_ ?_ | refine yak ?_ | refine yaf ?_ ?_ | refine yac ?_ ?_)
      all_goals (first | (rw [hsu]; done) | (rw [hsu]; simp; done) | omega | (simp; done))
     case hstore =>
      repeat' (first | rfl | refine yab ?_ ?_ | refine yad ?_ ?_ ?_ ?_ | refine yag ?_ | refine yae ?_ | refine yah ?_ | refine yai ?_ | refine yan ?_ ?_ ?_ | refine yaj ?_ ?_ ?_ | refine yak ?_ | refine yaf ?_ ?_ | refine yac ?_ ?_)
      all_goals (rw [hsu])
     case hst =>
      first | trivial | omega | (simp; done) | (simp; omega)
     case hm => omega
   ·intro hb
    try simp only [hB, decide_eq_true_eq, decide_eq_false_iff_not] at hb
    have hj : n = j := by omega
    subst hj
    have htk : (ints (antI A B n)).take (antI A B n).length = ints (antI A B n) := List.take_of_length_le (by rw [yaa]; exact Nat.le_refl _)
    have hof := M.of_b (n := n) (antI A B n) hn (by have := yse A B n; omega) (fun i hi => by obtain ⟨k, rfl, hk, _⟩ := (yqe A B n i).1 hi; omega)
    refine AW.exit ?_
    rw [← hQl1]
    refine hK10 _ _ _ ?_; clear hK10
    refine AW.seq fun K17 hK17 => ?_
    refine AW.regionK 0 (fun ii => if ii = 2 then some (.upd [200] (fun _ => []) (fun _ => .tup [.agg [.int .i64 n, .rsl 1 (words (setW (rowL n (antI A B n)) n))], .int .i64 0])) else none) [2, 3] [2] ?_
    simp only [go_sem, reduceIte, reduceCtorEq, zA, zM, zE, zL, zD, zS, zP, zB, zI, zR, htl, yaa, htk]
    repeat with_reducible refine cj ?_ ?_
    all_goals try first | (exact hof.upd (by simp only [List.map_cons, List.map_nil, go_sem, reduceIte, zE, htk, yhh])) | omega | exact ent (by kernel_rfl)
    refine hK17 _ _ _ ?_; clear hK17
    refine AW.ret ?_
    rw [← hQr]
    simp only [go_sem, reduceIte, reduceCtorEq, zA, zM, zE, zL, zD, zS, zP, zB, zI, zR, htl, yaa]
    exact Wk.refl _
theorem ysf (rs : List USet) (h : Reads Tryd.prog 16 false [relV rs] (.bool false)) : Reads Tryd.prog 30 false [relV rs] (.int .i64 1) := by
 unfold relV at *
 refine Reads.body (rs := [.tmp 2]) Tryd.func30 rfl Tryd.ntmps30 rfl (by simp) ?_
 generalize hQr : retQ _ _ _ = Qr
 refine AW.seq fun K1 hK1 => ?_
 refine AW.regionK 0 (fun _ => none) [1] [1] ?_
 simp only [go_sem, reduceIte, reduceCtorEq, zA, zM, zE, zL, zD, zS, zP, zB, zI, zR]
 repeat with_reducible refine cj ?_ ?_
 all_goals try first | omega
 refine hK1 _ _ _ ?_; clear hK1
 refine AW.seq fun K2 hK2 => ?_
 refine AW.block ?_
 refine AW.seq fun K3 hK3 => ?_
 refine AW.regionK 0 (fun ii => if ii = 1 then some (.reads false (.bool false)) else none) [1, 3] [1] ?_
 simp only [go_sem, reduceIte, reduceCtorEq, zA, zM, zE, zL, zD, zS, zP, zB, zI, zR]
 repeat with_reducible refine cj ?_ ?_
 all_goals try first | (exact h) | omega | exact ent (by kernel_rfl)
 refine hK3 _ _ _ ?_; clear hK3
 refine AW.cond rfl (by simp only [go_sem, reduceIte, reduceCtorEq, zA, zM, zE, zL, zD, zS, zP, zB, zI, zR]) ?_ ?_
 ·intro hb
  try simp only [hB, decide_eq_true_eq, decide_eq_false_iff_not] at hb
  refine AW.seq fun K4 hK4 => ?_
  refine AW.regionK 0 (fun _ => none) [2] [] ?_
  simp only [go_sem, reduceIte, reduceCtorEq, zA, zM, zE, zL, zD, zS, zP, zB, zI, zR]
  repeat with_reducible refine cj ?_ ?_
  all_goals try first | omega
  refine hK4 _ _ _ ?_; clear hK4
  refine AW.ret ?_
  rw [← hQr]
  simp only [go_sem, reduceIte, reduceCtorEq, zA, zM, zE, zL, zD, zS, zP, zB, zI, zR]
  exact Wk.refl _
 ·intro hb
  try simp only [hB, decide_eq_true_eq, decide_eq_false_iff_not] at hb
  exfalso; simp at hb
theorem ysg (n : Nat) (t : List (List Bool)) (hs : Sq n t) (hn : n ≤ 512) (hp : poB n t = true) : Reads Tryd.prog 30 false [relB t] (.int .i64 (if (yas t n).length ≤ 2000 then 0 else 9)) := by
 have hrv := ys7 n t hs hn
 rw [hp] at hrv
 have hpr := (R.rpairs_r n t hs hn).old
 have hpl := ydq t n n
 have hmul : n * n ≤ 262144 := Nat.le_trans (Nat.mul_le_mul hn hn) (by decide)
 have hpe : yav t n n = yas t n := rfl
 rw [hpe] at hpl
 unfold relB at *
 refine Reads.body (rs := [.tmp 2]) Tryd.func30 rfl Tryd.ntmps30 rfl (by simp) ?_
 generalize hQr : retQ _ _ _ = Qr
 refine AW.seq fun K1 hK1 => ?_
 refine AW.regionK 0 (fun _ => none) [1] [1] ?_
 simp only [go_sem, reduceIte, reduceCtorEq, zA, zM, zE, zL, zD, zS, zP, zB, zI, zR]
 repeat with_reducible refine cj ?_ ?_
 all_goals try first | omega
 refine hK1 _ _ _ ?_; clear hK1
 refine AW.seq fun K2 hK2 => ?_
 refine AW.block ?_
 refine AW.seq fun K3 hK3 => ?_
 refine AW.regionK 0 (fun ii => if ii = 1 then some (.reads false (.bool true)) else none) [1, 3] [1] ?_
 simp only [go_sem, reduceIte, reduceCtorEq, zA, zM, zE, zL, zD, zS, zP, zB, zI, zR]
 repeat with_reducible refine cj ?_ ?_
 all_goals try first | (exact hrv) | omega | exact ent (by kernel_rfl)
 refine hK3 _ _ _ ?_; clear hK3
 refine AW.cond rfl (by simp only [go_sem, reduceIte, reduceCtorEq, zA, zM, zE, zL, zD, zS, zP, zB, zI, zR]) ?_ ?_
 ·intro hb
  try simp only [hB, decide_eq_true_eq, decide_eq_false_iff_not] at hb
  exfalso; simp at hb
 ·intro hb
  try simp only [hB, decide_eq_true_eq, decide_eq_false_iff_not] at hb
  refine AW.seq fun K4 hK4 => ?_
  refine AW.regionK 0 (fun ii => if ii = 1 then some (.reads false (.rsl 2 ((yas t n).map ya8))) else none) [7] [] ?_
  simp only [go_sem, reduceIte, reduceCtorEq, zA, zM, zE, zL, zD, zS, zP, zB, zI, zR]
  repeat with_reducible refine cj ?_ ?_
  all_goals try first | (exact hpr) | omega | exact ent (by kernel_rfl)
  refine hK4 _ _ _ ?_; clear hK4
  refine AW.cond rfl (by simp only [go_sem, reduceIte, reduceCtorEq, zA, zM, zE, zL, zD, zS, zP, zB, zI, zR]) ?_ ?_
  ·intro hb
   try simp only [hB, decide_eq_true_eq, decide_eq_false_iff_not] at hb
   refine AW.seq fun K5 hK5 => ?_
   refine AW.regionK 0 (fun _ => none) [2] [] ?_
   simp only [go_sem, reduceIte, reduceCtorEq, zA, zM, zE, zL, zD, zS, zP, zB, zI, zR]
   repeat with_reducible refine cj ?_ ?_
   all_goals try first | omega
   refine hK5 _ _ _ ?_; clear hK5
   refine AW.ret ?_
   rw [← hQr]
   simp only [go_sem, reduceIte, reduceCtorEq, zA, zM, zE, zL, zD, zS, zP, zB, zI, zR]
   exact Wk.of_eq (by rw [if_neg (by omega)])
  ·intro hb
   try simp only [hB, decide_eq_true_eq, decide_eq_false_iff_not] at hb
   refine AW.skip ?_
   refine hK2 _ _ _ ?_; clear hK2
   refine AW.seq fun K6 hK6 => ?_
   refine AW.regionK 0 (fun _ => none) [2] [] ?_
   simp only [go_sem, reduceIte, reduceCtorEq, zA, zM, zE, zL, zD, zS, zP, zB, zI, zR]
   repeat with_reducible refine cj ?_ ?_
   all_goals try first | omega
   refine hK6 _ _ _ ?_; clear hK6
   refine AW.ret ?_
   rw [← hQr]
   simp only [go_sem, reduceIte, reduceCtorEq, zA, zM, zE, zL, zD, zS, zP, zB, zI, zR]
   exact Wk.of_eq (by rw [if_pos (by omega)])
end Go.Proofs.W

namespace Go.Proofs.W
open Go.AM Go
set_option maxRecDepth 100000
set_option maxHeartbeats 2000000
theorem ys9 (a b : Nat → Bool) : ∀ n, cnt (fun i => a i || b i) n ≤ cnt a n + cnt b n
 | 0 => Nat.le_refl _
 | n + 1 => by
  have := ys9 a b n
  rw [yci, yci, yci]
  cases a n <;> cases b n <;> simp <;> omega
theorem yqf {n : Nat} {E : List (Int × Int)} (h : M.Gd n n E) : (M.maxP n n E).length = cnt (pL (maxLR (nbOf n E) n n n).1) n := yp5 h.max.1.hL
theorem yir {n : Nat} {t : List (List Bool)} (h : M.Gd n n (yas t n)) : (chainsT n t).length + (M.maxP n n (yas t n)).length = n := by
 have hpl := plT h
 have h1 := hpl.len h.hE
 have h2 := mch_cnt hpl.hM
 have h3 := ymr (pL (plc n n (M.maxP n n (yas t n))).2) n
 have h4 : (chainsT n t).length = cnt (fun i => !pL (plc n n (M.maxP n n (yas t n))).2 i) n := by
  unfold chainsT chAt
  rw [List.length_map]
  show cnt (fun i => (begT n t).getD i false) n = _
  refine yh2 fun i hi => ?_
  unfold begT
  rw [yp8 hi]
  congr 1
  have := hpl.hR i
  cases hq : (M.maxP n n (yas t n)).any fun p => decide (p.2 = (i : Int)) with
  | true => exact (decide_eq_true (this.2 hq)).symm
  | false => exact (decide_eq_false (fun h0 => by rw [this.1 h0] at hq; cases hq)).symm
 omega
def inS (n : Nat) (t : List (List Bool)) (i : Nat) : Bool := decide ((i : Int) ∈ (M.rchM n n (yas t n)).l)
def inT (n : Nat) (t : List (List Bool)) (i : Nat) : Bool := decide ((i : Int) ∈ (M.rchM n n (yas t n)).q)
theorem rchT {n : Nat} {t : List (List Bool)} (h : M.Gd n n (yas t n)) : Rch n n (yas t n) (maxLR (nbOf n (yas t n)) n n n).1 (maxLR (nbOf n (yas t n)) n n n).2 (inS n t) (inT n t) := by
 obtain ⟨_, h1, h2⟩ := yku (yd7 n (yas t n)) h.rng h.max.1
 exact ⟨h.max.1, h.max.2, h.hE, fun i => by unfold inS; rw [decide_eq_true_eq]; exact h1 i, fun i => by unfold inT; rw [decide_eq_true_eq]; exact h2 i⟩
theorem yjq (n : Nat) (t : List (List Bool)) : (antF n t).length = n := ycv _ _
theorem ymu {n : Nat} {t : List (List Bool)} {i : Nat} (hi : i < n) : (antF n t).getD i false = (inS n t i && !inT n t i) := by
 have hA : (M.cvL n n (yas t n)).getD i false = !inS n t i := by
  unfold M.cvL
  rw [ydp hi]
  unfold inS
  rw [← decide_not]
  refine decide_eq_decide.2 ?_
  rw [M.restI_mem]
  constructor
  ·rintro ⟨k, e, _, h2⟩
   have : i = k := by omega
   subst this; exact h2
  ·intro h2; exact ⟨i, rfl, hi, h2⟩
 have hB : (M.cvR n n (yas t n)).getD i false = inT n t i := by
  unfold M.cvR inT
  rw [ydp hi]
 unfold antF
 rw [ydp hi]
 have : ((i : Int) ∈ antI (M.cvL n n (yas t n)) (M.cvR n n (yas t n)) n) ↔ (inS n t i && !inT n t i) = true := by
  rw [yqe]
  constructor
  ·rintro ⟨k, e, _, h1, h2⟩
   have : i = k := by omega
   subst this
   rw [hA] at h1
   rw [hB] at h2
   rw [h2]
   simpa using h1
  ·intro h
   simp only [Bool.and_eq_true, Bool.not_eq_true'] at h
   exact ⟨i, rfl, hi, by rw [hA, h.1]; rfl, by rw [hB]; exact h.2⟩
 cases hx : inS n t i && !inT n t i with
 | true => exact decide_eq_true (this.2 hx)
 | false => exact decide_eq_false (fun hm => by rw [this.1 hm] at hx; cases hx)
theorem antF_free {n : Nat} {t : List (List Bool)} (h : M.Gd n n (yas t n)) {i j : Nat} (hi : i < n) (hj : j < n) (h1 : (antF n t).getD i false = true) (h2 : (antF n t).getD j false = true) : atT t i j = false := by
 rw [ymu hi] at h1
 rw [ymu hj] at h2
 simp only [Bool.and_eq_true, Bool.not_eq_true'] at h1 h2
 cases ha : atT t i j with
 | false => rfl
 | true =>
  have he : (((i : Nat) : Int), ((j : Nat) : Int)) ∈ yas t n := pairsT_mem.2 ⟨i, j, rfl, hi, hj, ha⟩
  have := (rchT h).edge he (by simpa using h1.1)
  simp only [Int.toNat_natCast] at this
  rw [h2.2] at this; cases this
theorem yn8 {n : Nat} {t : List (List Bool)} (h : M.Gd n n (yas t n)) : antiB t (antF n t) = true := by
 rw [← yqc (yjq n t)]
 unfold frU frI
 rw [List.all_eq_true]
 intro i hi
 rw [List.all_eq_true]
 intro j hj
 have hi := List.mem_range.1 hi
 have hj := List.mem_range.1 hj
 cases h1 : (antF n t).getD i false with
 | false => rfl
 | true =>
  cases h2 : (antF n t).getD j false with
  | false => rfl
  | true => rw [antF_free h hi hj h1 h2]; rfl
theorem yqg {n : Nat} {t : List (List Bool)} (hp : IsPo n t) (h : M.Gd n n (yas t n)) {b : List Bool} (hb : b.length = n) (ha : antiB t b = true) : (memB b).length ≤ (chainsT n t).length := by
 have h1 := anti_le hp h.max.1 h.hE (fun i => b.getD i false) (fun i j hi hj h1 h2 => by
  cases hat : atT t i j with
  | false => rfl
  | true =>
   have := yg4 (t := t) (memB_mem.2 ⟨by omega, h1⟩) (memB_mem.2 ⟨by omega, h2⟩) hat
   unfold antiB at ha
   rw [this] at ha; cases ha)
 have h2 := yqf h
 have h3 := yir h
 rw [yp4, hb]
 omega
theorem yky {n : Nat} {t : List (List Bool)} (hp : IsPo n t) (h : M.Gd n n (yas t n)) : (memB (antF n t)).length = (chainsT n t).length := by
 refine Nat.le_antisymm (yqg hp h (yjq n t) (yn8 h)) ?_
 have h1 := (rchT h).cover
 have h2 := yqf h
 have h3 := yir h
 have h4 := ymr (fun i => inS n t i && !inT n t i) n
 have h5 : cnt (fun i => !(inS n t i && !inT n t i)) n ≤ cnt (fun i => !inS n t i) n + cnt (inT n t) n := by
  have := ys9 (fun i => !inS n t i) (inT n t) n
  rw [show (fun i => !(inS n t i && !inT n t i)) = fun i => !inS n t i || inT n t i from funext fun i => by cases inS n t i <;> cases inT n t i <;> rfl]
  exact this
 have h6 : (memB (antF n t)).length = cnt (fun i => inS n t i && !inT n t i) n := by
  rw [yp4, yjq]
  exact yh2 fun i hi => ymu hi
 omega
end Go.Proofs.W

namespace Go.Proofs.W
open Go.AM Go
set_option maxRecDepth 100000
set_option maxHeartbeats 2000000
theorem yga {N : List Int} {f : Nat} {a x : Int} (h : (chR N f a)[0]? = some x) : x = a := by
 cases f with
 | zero => simp [chR] at h
 | succ f =>
  unfold chR at h
  by_cases e : 0 ≤ a
  ·rw [if_pos e] at h; simp at h; exact h.symm
  ·rw [if_neg e] at h; simp at h
theorem ye2 {N : List Int} : ∀ {f : Nat} {k : Nat} {a x : Int}, (chR N f a)[k + 1]? = some x → 0 ≤ x ∧ ∃ y, (chR N f a)[k]? = some y ∧ 0 ≤ y ∧ N.getD y.toNat 0 = x
 | 0, k, a, x, h => by simp [chR] at h
 | f + 1, k, a, x, h => by
  unfold chR at h
  by_cases e : 0 ≤ a
  ·rw [if_pos e, List.getElem?_cons_succ] at h
   have e2 : chR N (f + 1) a = a :: chR N f (N.getD a.toNat 0) := by rw [chR, if_pos e]
   rw [e2]
   cases k with
   | zero =>
    have hx := yga h
    refine ⟨?_, a, by simp, e, hx.symm⟩
    cases f with
    | zero => simp [chR] at h
    | succ f =>
     unfold chR at h
     by_cases e3 : 0 ≤ N.getD a.toNat 0
     ·omega
     ·rw [if_neg e3] at h; simp at h
   | succ k =>
    obtain ⟨h1, y, h2, h3⟩ := ye2 h
    exact ⟨h1, y, by rw [List.getElem?_cons_succ]; exact h2, h3⟩
  ·rw [if_neg e] at h; simp at h
theorem yqh {N : List Int} : ∀ {f : Nat} {k : Nat} {a y : Int}, (chR N f a)[k]? = some y → k + 1 < f → 0 ≤ N.getD y.toNat 0 → (chR N f a)[k + 1]? = some (N.getD y.toNat 0)
 | 0, k, a, y, h, _, _ => by simp [chR] at h
 | f + 1, k, a, y, h, hk, hn => by
  unfold chR at h ⊢
  by_cases e : 0 ≤ a
  ·rw [if_pos e] at h ⊢
   rw [List.getElem?_cons_succ]
   cases k with
   | zero =>
    simp at h; subst h
    cases f with
    | zero => omega
    | succ f => rw [chR, if_pos hn]; simp
   | succ k =>
    rw [List.getElem?_cons_succ] at h
    exact yqh h (by omega) hn
  ·rw [if_neg e] at h; simp at h
/-- The facts about a matching that make its chains a partition. -/
structure NxI (n : Nat) (t : List (List Bool)) (N R : List Int) : Prop where
 up : ∀ i : Nat, i < n → 0 ≤ N.getD i 0 → N.getD i 0 < n ∧ atT t i (N.getD i 0).toNat = true ∧ gi R (N.getD i 0).toNat = i
 dn : ∀ j : Nat, j < n → 0 ≤ gi R j → gi R j < n ∧ N.getD (gi R j).toNat 0 = j
theorem nxI {n : Nat} {t : List (List Bool)} (h : M.Gd n n (yas t n)) : NxI n t (nxtT n t) (plc n n (M.maxP n n (yas t n))).2 := by
 have hpl := plT h
 have hM := hpl.hM
 have hlen := hM.hL
 refine ⟨fun i hi h0 => ?_, fun j hj h0 => ?_⟩
 ·have e : (nxtT n t).getD i 0 = gi (plc n n (M.maxP n n (yas t n))).1 i := yh0 (by unfold nxtT at *; omega)
  rw [e] at h0 ⊢
  have h1 := hM.hLm i
  have h2 := (ycw (n := n) h.hE i _).1 (hM.hE i h0)
  obtain ⟨a, b, hab, _, _, hat⟩ := pairsT_mem.1 h2
  simp only [Prod.mk.injEq] at hab
  obtain ⟨ha, hb⟩ := hab
  have ha : a = i := by omega
  subst ha
  refine ⟨h1, ?_, (hM.hC a _).1 (by omega)⟩
  rw [hb]; simpa using hat
 ·have h1 := hM.hRn j
  refine ⟨h1, ?_⟩
  have h2 := (hM.hC (gi (plc n n (M.maxP n n (yas t n))).2 j).toNat j).2 (by omega)
  have e : (nxtT n t).getD (gi (plc n n (M.maxP n n (yas t n))).2 j).toNat 0 = gi (plc n n (M.maxP n n (yas t n))).1 (gi (plc n n (M.maxP n n (yas t n))).2 j).toNat := yh0 (by unfold nxtT at *; omega)
  rw [e]; exact h2
theorem NxI.rng {n : Nat} {t : List (List Bool)} {N R : List Int} (h : NxI n t N R) {f : Nat} {a : Nat} (ha : a < n) : ∀ {k : Nat} {x : Int}, (chR N f a)[k]? = some x → 0 ≤ x ∧ x < n
 | 0, x, hx => by have := yga hx; omega
 | k + 1, x, hx => by
  obtain ⟨h1, y, h2, h3, h4⟩ := ye2 hx
  have := h.rng ha h2
  have := (h.up y.toNat (by omega) (by omega)).1
  omega
theorem NxI.uniq {n : Nat} {t : List (List Bool)} {N R : List Int} (h : NxI n t N R) {f a b : Nat} (ha : a < n) (hb : b < n) (hRa : gi R a < 0) (hRb : gi R b < 0) : ∀ {k l : Nat} {x : Int}, (chR N f a)[k]? = some x → (chR N f b)[l]? = some x → a = b ∧ k = l
 | 0, 0, x, h1, h2 => by have := yga h1; have := yga h2; exact ⟨by omega, rfl⟩
 | 0, l + 1, x, h1, h2 => by
  exfalso
  have e := yga h1
  obtain ⟨g1, y, g2, g3, g4⟩ := ye2 h2
  have hy := h.rng hb g2
  have := (h.up y.toNat (by omega) (by omega)).2.2
  rw [g4, e] at this
  simp only [Int.toNat_natCast] at this
  omega
 | k + 1, 0, x, h1, h2 => by
  exfalso
  have e := yga h2
  obtain ⟨g1, y, g2, g3, g4⟩ := ye2 h1
  have hy := h.rng ha g2
  have := (h.up y.toNat (by omega) (by omega)).2.2
  rw [g4, e] at this
  simp only [Int.toNat_natCast] at this
  omega
 | k + 1, l + 1, x, h1, h2 => by
  obtain ⟨g1, y, g2, g3, g4⟩ := ye2 h1
  obtain ⟨m1, z, m2, m3, m4⟩ := ye2 h2
  have hy := h.rng ha g2
  have hz := h.rng hb m2
  have e1 := (h.up y.toNat (by omega) (by omega)).2.2
  have e2 := (h.up z.toNat (by omega) (by omega)).2.2
  rw [g4] at e1
  rw [m4] at e2
  have : y = z := by omega
  subst this
  obtain ⟨q1, q2⟩ := h.uniq ha hb hRa hRb g2 m2
  exact ⟨q1, by omega⟩
theorem NxI.cover {n : Nat} {t : List (List Bool)} {N R : List Int} (hp : IsPo n t) (h : NxI n t N R) : ∀ (m x : Nat), x < n → n ≤ upc n t x + m → ∃ a k : Nat, a < n ∧ gi R a < 0 ∧ k + upc n t x ≤ n ∧ (chR N (n + 1) a)[k]? = some (x : Int) := by
 intro m
 induction m with
 | zero =>
  intro x hx hm
  by_cases e : 0 ≤ gi R x
  ·obtain ⟨h1, h2⟩ := h.dn x hx e
   have h3 := (h.up (gi R x).toNat (by omega) (by omega)).2.1
   rw [h2] at h3
   simp only [Int.toNat_natCast] at h3
   have := yr1 hp (by omega) hx h3
   have := yqa n t (gi R x).toNat
   omega
  ·exact ⟨x, 0, hx, by omega, by have := yqa n t x; omega, by rw [chR, if_pos (by omega)]; simp⟩
 | succ m ih =>
  intro x hx hm
  by_cases e : 0 ≤ gi R x
  ·obtain ⟨h1, h2⟩ := h.dn x hx e
   have h3 := (h.up (gi R x).toNat (by omega) (by omega)).2.1
   rw [h2] at h3
   simp only [Int.toNat_natCast] at h3
   have h4 := yr1 hp (by omega) hx h3
   obtain ⟨a, k, g1, g2, g3, g4⟩ := ih (gi R x).toNat (by omega) (by omega)
   refine ⟨a, k + 1, g1, g2, by omega, ?_⟩
   have := yqh g4 (by omega) (by rw [Int.toNat_natCast, h2]; omega)
   rw [Int.toNat_natCast, h2] at this
   exact this
  ·exact ⟨x, 0, hx, by omega, by have := yqa n t x; omega, by rw [chR, if_pos (by omega)]; simp⟩
theorem NxI.chain {n : Nat} {t : List (List Bool)} {N R : List Int} (h : NxI n t N R) {f a : Nat} (ha : a < n) : okC n t (chR N (f + 1) a) = true := by
 have hr := fun {k : Nat} {x : Int} => h.rng (f := f + 1) ha (k := k) (x := x)
 unfold okC chainB
 simp only [Bool.and_eq_true, Bool.not_eq_true', decide_eq_false_iff_not]
 refine ⟨by rw [chR, if_pos (by omega)]; simp, ?_, ?_⟩
 ·rw [List.any_eq_false]
  intro x hx
  obtain ⟨k, hk⟩ := List.getElem?_of_mem hx
  have := hr hk
  unfold outB
  simp only [Bool.or_eq_true, decide_eq_true_eq]
  omega
 ·unfold yfb
  rw [List.all_eq_true]
  intro k hk
  have hk := List.mem_range.1 hk
  cases k with
  | zero => rfl
  | succ k =>
   obtain ⟨x, hx⟩ : ∃ x, (chR N (f + 1) a)[k + 1]? = some x := ⟨_, List.getElem?_eq_getElem hk⟩
   obtain ⟨g1, y, g2, g3, g4⟩ := ye2 hx
   have hy := hr g2
   have hz := hr hx
   have hu := (h.up y.toNat (by omega) (by omega)).2.1
   rw [g4] at hu
   simp only [Nat.add_sub_cancel]
   rw [List.getD_eq_getElem?_getD, List.getD_eq_getElem?_getD, g2, hx]
   simp only [Option.getD_some]
   unfold yjd
   rw [hu, decide_eq_true hy.1, decide_eq_true hy.2, decide_eq_true hz.1, decide_eq_true hz.2]
   simp
theorem ykz {n : Nat} {t : List (List Bool)} (hp : IsPo n t) (hg : M.Gd n n (yas t n)) : ye1 n t (chainsT n t) = true := by
 have h := nxI hg
 have hpl := plT hg
 have hB : ∀ i, i < n → ((begT n t).getD i false = true ↔ gi (plc n n (M.maxP n n (yas t n))).2 i < 0) := by
  intro i hi
  unfold begT
  rw [yp8 hi, Bool.not_eq_true', ← Bool.not_eq_true, ← hpl.hR i]
  omega
 generalize (plc n n (M.maxP n n (yas t n))).2 = R at *
 have hmem : ∀ c, c ∈ chainsT n t ↔ ∃ a, a < n ∧ gi R a < 0 ∧ chR (nxtT n t) (n + 1) (a : Int) = c := by
  intro c
  unfold chainsT chAt
  rw [List.mem_map]
  constructor
  ·rintro ⟨a, ha, rfl⟩
   rw [List.mem_filter, List.mem_range] at ha
   exact ⟨a, ha.1, (hB a ha.1).1 ha.2, rfl⟩
  ·rintro ⟨a, h1, h2, rfl⟩
   exact ⟨a, List.mem_filter.2 ⟨List.mem_range.2 h1, (hB a h1).2 h2⟩, rfl⟩
 have hnd : (chainsT n t).flatten.Nodup := by
  show List.Pairwise (· ≠ ·) _
  rw [List.pairwise_flatten]
  refine ⟨fun c hc => ?_, ?_⟩
  ·obtain ⟨a, h1, h2, rfl⟩ := (hmem c).1 hc
   refine List.pairwise_iff_getElem.2 fun i j hi hj hij e => ?_
   have g1 := List.getElem?_eq_getElem hi
   have g2 := List.getElem?_eq_getElem hj
   rw [← e] at g2
   have := (h.uniq h1 h1 h2 h2 g1 g2).2
   omega
  ·unfold chainsT chAt
   refine List.pairwise_map.2 (List.Pairwise.imp_of_mem (fun {a b} ha hb hab => ?_) (List.Pairwise.sublist List.filter_sublist (List.nodup_range (n := n))))
   rw [List.mem_filter, List.mem_range] at ha hb
   have h1 := (hB a ha.1).1 ha.2
   have h2 := (hB b hb.1).1 hb.2
   intro x hx y hy e
   subst e
   obtain ⟨i, hi⟩ := List.getElem?_of_mem hx
   obtain ⟨j, hj⟩ := List.getElem?_of_mem hy
   exact hab (h.uniq ha.1 hb.1 h1 h2 hi hj).1
 have hlen : (chainsT n t).flatten.length = n := by
  have hr : ((List.range n).map fun (i : Nat) => (i : Int)).Nodup := List.pairwise_map.2 (List.Pairwise.imp (fun {a b} hab e => hab (by omega)) (List.nodup_range (n := n)))
  have hrl : ((List.range n).map fun (i : Nat) => (i : Int)).length = n := by simp
  refine Nat.le_antisymm ?_ ?_
  ·have := ycx hnd (l' := (List.range n).map fun (i : Nat) => (i : Int)) ?_
   ·omega
   intro x hx
   obtain ⟨c, hc, hxc⟩ := List.mem_flatten.1 hx
   obtain ⟨a, h1, h2, rfl⟩ := (hmem c).1 hc
   obtain ⟨i, hi⟩ := List.getElem?_of_mem hxc
   have := h.rng h1 hi
   exact List.mem_map.2 ⟨x.toNat, List.mem_range.2 (by omega), by omega⟩
  ·have := ycx hr (l' := (chainsT n t).flatten) fun x hx => by
    obtain ⟨i, hi, rfl⟩ := List.mem_map.1 hx
    have hi := List.mem_range.1 hi
    obtain ⟨a, k, g1, g2, _, g4⟩ := h.cover hp n i hi (by omega)
    exact List.mem_flatten.2 ⟨_, (hmem _).2 ⟨a, g1, g2, rfl⟩, List.mem_of_getElem? g4⟩
   omega
 unfold ye1
 simp only [Bool.and_eq_true, decide_eq_true_eq]
 refine ⟨List.all_eq_true.2 fun c hc => ?_, hnd, hlen⟩
 obtain ⟨a, h1, h2, rfl⟩ := (hmem c).1 hc
 exact h.chain h1
theorem chain_pair {n : Nat} {t : List (List Bool)} (hp : IsPo n t) {c : List Int} (h : okC n t c = true) : ∀ (d i : Nat), i + d + 1 < c.length → atT t (c.getD i 0).toNat (c.getD (i + d + 1) 0).toNat = true := by
 have hrg := ykw h
 have hst : ∀ k, k + 1 < c.length → atT t (c.getD k 0).toNat (c.getD (k + 1) 0).toNat = true := by
  intro k hk
  unfold okC chainB yfb at h
  simp only [Bool.and_eq_true, List.all_eq_true, List.mem_range] at h
  have := h.2.2 (k + 1) hk
  unfold yjd at this
  simp at this
  exact this.2
 intro d
 induction d with
 | zero => intro i hi; exact hst i hi
 | succ d ih =>
  intro i hi
  have h1 := ih i (by omega)
  have h2 := hst (i + d + 1) (by omega)
  have r1 := hrg _ (ybp (l := c) (i := i) (by omega) 0)
  have r2 := hrg _ (ybp (l := c) (i := i + d + 1) (by omega) 0)
  have r3 := hrg _ (ybp (l := c) (i := i + d + 1 + 1) (by omega) 0)
  rw [show i + (d + 1) + 1 = i + d + 1 + 1 by omega]
  exact hp.trans _ _ _ (by omega) (by omega) (by omega) h1 h2
theorem chain_one {n : Nat} {t : List (List Bool)} (hp : IsPo n t) {c : List Int} (h : okC n t c = true) {b : List Bool} (hb : b.length = n) (ha : antiB t b = true) : (c.filter fun x => b.getD x.toNat false).length ≤ 1 := by
 have hrg := ykw h
 have hpw : c.Pairwise fun x y => ¬ (b.getD x.toNat false = true ∧ b.getD y.toNat false = true) := by
  refine List.pairwise_iff_getElem.2 fun i j hi hj hij hxy => ?_
  have hat := chain_pair hp h (j - i - 1) i (by omega)
  rw [show i + (j - i - 1) + 1 = j by omega] at hat
  rw [List.getD_eq_getElem?_getD, List.getD_eq_getElem?_getD, List.getElem?_eq_getElem hi, List.getElem?_eq_getElem hj] at hat
  simp only [Option.getD_some] at hat
  have r1 := hrg _ (List.getElem_mem hi)
  have r2 := hrg _ (List.getElem_mem hj)
  have := yg4 (t := t) (memB_mem.2 ⟨by omega, hxy.1⟩) (memB_mem.2 ⟨by omega, hxy.2⟩) hat
  unfold antiB at ha
  rw [this] at ha; cases ha
 have h2 := List.Pairwise.sublist (List.filter_sublist (p := fun x : Int => b.getD x.toNat false)) hpw
 have h3 : ∀ x ∈ c.filter (fun x => b.getD x.toNat false), b.getD x.toNat false = true := fun x hx => (List.mem_filter.1 hx).2
 generalize c.filter (fun x => b.getD x.toNat false) = q at h2 h3 ⊢
 match q, h2, h3 with
 | [], _, _ => simp
 | [_], _, _ => simp
 | x :: y :: l, h2, h3 =>
  exfalso
  exact (List.pairwise_cons.1 h2).1 y (by simp) ⟨h3 x (by simp), h3 y (by simp)⟩
theorem yk0 {α : Type} (p : α → Bool) : ∀ (cs : List (List α)), (∀ c ∈ cs, (c.filter p).length ≤ 1) → (cs.flatten.filter p).length ≤ cs.length
 | [], _ => by simp
 | c :: cs, h => by
  have h1 := h c (by simp)
  have h2 := yk0 p cs fun x hx => h x (List.mem_cons_of_mem _ hx)
  rw [List.flatten_cons, List.filter_append, List.length_append, List.length_cons]
  omega
theorem part_anti {n : Nat} {t : List (List Bool)} (hp : IsPo n t) {cs : List (List Int)} (h : ye1 n t cs = true) {b : List Bool} (hb : b.length = n) (ha : antiB t b = true) : (memB b).length ≤ cs.length := by
 unfold ye1 at h
 simp only [Bool.and_eq_true, decide_eq_true_eq, List.all_eq_true] at h
 obtain ⟨h1, h2, h3⟩ := h
 have h4 := yk0 (fun x : Int => b.getD x.toNat false) cs fun c hc => chain_one hp (h1 c hc) hb ha
 have hall : ∀ i : Nat, i < n → (i : Int) ∈ cs.flatten := by
  intro i hi
  by_cases e : (i : Int) ∈ cs.flatten
  ·exact e
  ·exfalso
   have := ycx (l := (i : Int) :: cs.flatten) (l' := (List.range n).map fun (i : Nat) => (i : Int)) (List.nodup_cons.2 ⟨e, h2⟩) fun x hx => by
    rcases List.mem_cons.1 hx with rfl | hx
    ·exact List.mem_map.2 ⟨i, List.mem_range.2 hi, rfl⟩
    ·obtain ⟨c, hc, hxc⟩ := List.mem_flatten.1 hx
     have := ykw (h1 c hc) x hxc
     exact List.mem_map.2 ⟨x.toNat, List.mem_range.2 (by omega), by omega⟩
   simp only [List.length_cons, List.length_map, List.length_range] at this
   omega
 have h5 : ((memB b).map fun (i : Nat) => (i : Int)).Nodup := by
  refine List.pairwise_map.2 ?_
  have h : (memB b).Pairwise (· ≠ ·) := by unfold memB; exact List.Pairwise.sublist List.filter_sublist (List.nodup_range (n := b.length))
  exact List.Pairwise.imp (fun {a c} hab e => hab (by have e : (a : Int) = (c : Int) := e; omega)) h
 have h6 := ycx h5 (l' := cs.flatten.filter fun x : Int => b.getD x.toNat false) fun x hx => by
  obtain ⟨i, hi, rfl⟩ := List.mem_map.1 hx
  obtain ⟨g1, g2⟩ := memB_mem.1 hi
  exact List.mem_filter.2 ⟨hall i (by omega), by simpa using g2⟩
 rw [List.length_map] at h6
 omega
theorem ysh (N : List Int) : ∀ (f : Nat) (a : Int), (chR N f a).length ≤ f
 | 0, _ => by simp [chR]
 | f + 1, a => by
  unfold chR
  split
  ·rw [List.length_cons]; have := ysh N f (N.getD a.toNat 0); omega
  ·simp
theorem chains_bnd (n : Nat) (t : List (List Bool)) : (chainsT n t).length ≤ n ∧ ∀ c ∈ chainsT n t, c.length ≤ n + 1 := by
 refine ⟨yr0 _ _ _ _, fun c hc => ?_⟩
 unfold chainsT chAt at hc
 obtain ⟨a, _, rfl⟩ := List.mem_map.1 hc
 exact ysh _ _ _
end Go.Proofs.W

