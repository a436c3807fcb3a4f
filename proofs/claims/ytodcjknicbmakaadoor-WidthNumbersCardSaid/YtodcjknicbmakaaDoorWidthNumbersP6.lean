/- Lemmas and contracts, part 6: an abstract machine over the model, and the functions that the statement reaches. -/
import Derived.Test.YtodcjknicbmakaaDoorWidthNumbersP5
set_option linter.unusedVariables false
set_option linter.unusedSimpArgs false
open Nat renaming reduceAdd → zA, reduceMul → zM, reduceEqDiff → zE, reduceLT → zL, reduceLeDiff → zD, reduceSub → zS, reducePow → zP, reduceBEq → zB
open Int renaming reduceToNat → zI
open List renaming reduceReplicate → zR
namespace Go.Proofs.W
open Go.AM Go
set_option maxRecDepth 100000
set_option maxHeartbeats 2000000
theorem pairsT_nodup (t : List (List Bool)) (n : Nat) : (yas t n).Nodup := by
 unfold yas
 have h : ∀ i, (yav t n i).Nodup ∧ ∀ p ∈ yav t n i, p.1 < (i : Int) := by
  intro i
  induction i with
  | zero => exact ⟨by simp [yav], fun p hp => by simp [yav] at hp⟩
  | succ i ih =>
   rw [ycm]
   refine ⟨List.nodup_append.2 ⟨ih.1, ?_, ?_⟩, fun p hp => ?_⟩
   ·unfold yax
    refine List.pairwise_map.2 (List.Pairwise.imp (fun {a b} h e => ?_) (List.Pairwise.sublist List.filter_sublist (List.nodup_range (n := n))))
    simp only [Prod.mk.injEq] at e
    exact h (by omega)
   ·intro a ha b hb e
    subst e
    have h1 := ih.2 a ha
    unfold yax at hb
    obtain ⟨j, _, rfl⟩ := List.mem_map.1 hb
    simp at h1
   ·rcases List.mem_append.1 hp with hp | hp
    ·have := ih.2 p hp; omega
    ·unfold yax at hp
     obtain ⟨j, _, rfl⟩ := List.mem_map.1 hp
     simp only; omega
 exact (h n).1
theorem gdT {n : Nat} {t : List (List Bool)} (hn : n ≤ 512) (hl : (yas t n).length ≤ 2000) : M.Gd n n (yas t n) :=
 ⟨hn, hn, hl, fun e he => by obtain ⟨i, j, rfl, h1, h2, _⟩ := pairsT_mem.1 he; exact edgeIn_iff.2 (by simp only; omega), pairsT_nodup t n⟩
def nxtT (n : Nat) (t : List (List Bool)) : List Int := (plc n n (M.maxP n n (yas t n))).1
def begT (n : Nat) (t : List (List Bool)) : List Bool := begF n (M.maxP n n (yas t n))
def chainsT (n : Nat) (t : List (List Bool)) : List (List Int) := chAt (nxtT n t) (begT n t) n n
theorem maxP_mat {n m : Nat} {E : List (Int × Int)} (h : M.Gd n m E) : ymg E (M.maxP n m E) = true := yow h.max.1 h.hE
theorem plT {n : Nat} {t : List (List Bool)} (h : M.Gd n n (yas t n)) : PlI n n (yas t n) (M.maxP n n (yas t n)) (plc n n (M.maxP n n (yas t n))) := plc_pl h.hE (maxP_mat h)
theorem nbV_app (l : List (List Int)) (row : List Int) : M.nbV l ++ [[.osl 1 (ints row)]] = M.nbV (l ++ [row]) := by simp [M.nbV]
theorem take_edge {n : Nat} {Q E : List (Int × Int)} (hQ : ∀ p ∈ Q, p ∈ E) (hE : ∀ e ∈ E, yb4 n n e = true) {j : Nat} {p : Int × Int} (hp : Q[j]? = some p) : 0 ≤ p.1 ∧ p.1 < (n : Int) ∧ 0 ≤ p.2 ∧ p.2 < (n : Int) := edgeIn_iff.1 (hE p (hQ p (List.mem_of_getElem? hp)))
theorem yrt (n m : Nat) (P : List (Int × Int)) : (plc n m P).1.length = n ∧ (plc n m P).2.length = m := by
 unfold plc
 have : ∀ (P : List (Int × Int)) (x : List Int × List Int), x.1.length = n ∧ x.2.length = m → (P.foldl ysi x).1.length = n ∧ (P.foldl ysi x).2.length = m := by
  intro P
  induction P with
  | nil => intro x h; exact h
  | cons p P ih => intro x h; rw [List.foldl_cons]; exact ih _ (by simpa [ysi] using h)
 exact this P _ (by simp)
theorem ymm (es : List (List AV)) (h : Reads Tryd.prog 46 false [.agg [.rsl 2 es]] (.bool false)) : Reads Tryd.prog 28 false [.agg [.rsl 2 es]] (.tup [.nilsl, .int .i64 1]) := by
 have he := yov es h
 refine Reads.body (rs := [.tmp 2, .tmp 3]) Tryd.func28 rfl Tryd.ntmps28 rfl (by simp) ?_
 generalize hQr : retQ _ _ _ = Qr
 refine AW.seq fun K1 hK1 => ?_
 refine AW.regionK 0 (fun _ => none) [1] [1] ?_
 simp only [go_sem, reduceIte, reduceCtorEq, zA, zM, zE, zL, zD, zS, zP, zB, zI, zR]
 repeat with_reducible refine cj ?_ ?_
 all_goals try first | omega
 refine hK1 _ _ _ ?_; clear hK1
 refine AW.seq fun K2 hK2 => ?_
 refine AW.regionK 0 (fun ii => if ii = 1 then some (.reads false (.tup [.nilsl, .int .i64 1])) else none) [1, 4, 5] [1] ?_
 simp only [go_sem, reduceIte, reduceCtorEq, zA, zM, zE, zL, zD, zS, zP, zB, zI, zR]
 repeat with_reducible refine cj ?_ ?_
 all_goals try first | (exact he) | omega | exact ent (by kernel_rfl)
 refine hK2 _ _ _ ?_; clear hK2
 refine AW.seq fun K3 hK3 => ?_
 refine AW.seq fun K4 hK4 => ?_
 refine AW.regionK 0 (fun _ => none) [1, 4, 5, 23] [1] ?_
 simp only [go_sem, reduceIte, reduceCtorEq, zA, zM, zE, zL, zD, zS, zP, zB, zI, zR]
 repeat with_reducible refine cj ?_ ?_
 all_goals try first | omega
 refine hK4 _ _ _ ?_; clear hK4
 refine AW.cond rfl (by simp only [go_sem, reduceIte, reduceCtorEq, zA, zM, zE, zL, zD, zS, zP, zB, zI, zR]) ?_ ?_
 ·intro hb
  try simp only [hB, decide_eq_true_eq, decide_eq_false_iff_not] at hb
  refine AW.seq fun K5 hK5 => ?_
  refine AW.regionK 0 (fun _ => none) [2, 3] [] ?_
  simp only [go_sem, reduceIte, reduceCtorEq, zA, zM, zE, zL, zD, zS, zP, zB, zI, zR]
  repeat with_reducible refine cj ?_ ?_
  all_goals try first | omega
  refine hK5 _ _ _ ?_; clear hK5
  refine AW.ret ?_
  rw [← hQr]
  simp only [go_sem, reduceIte, reduceCtorEq, zA, zM, zE, zL, zD, zS, zP, zB, zI, zR]
  exact Wk.refl _
 ·intro hb
  try simp only [hB, decide_eq_true_eq, decide_eq_false_iff_not] at hb
  exfalso; simp at hb
theorem yqb (n : Nat) (t : List (List Bool)) (hs : Sq n t) (hn : n ≤ 512) (hp : poB n t = true) (hbig : ¬ (yas t n).length ≤ 2000) : Reads Tryd.prog 28 false [relB t] (.tup [.nilsl, .int .i64 9]) := by
 have he := yii n t hs hn hp
 rw [if_neg hbig] at he
 unfold relB at *
 refine Reads.body (rs := [.tmp 2, .tmp 3]) Tryd.func28 rfl Tryd.ntmps28 rfl (by simp) ?_
 generalize hQr : retQ _ _ _ = Qr
 refine AW.seq fun K1 hK1 => ?_
 refine AW.regionK 0 (fun _ => none) [1] [1] ?_
 simp only [go_sem, reduceIte, reduceCtorEq, zA, zM, zE, zL, zD, zS, zP, zB, zI, zR]
 repeat with_reducible refine cj ?_ ?_
 all_goals try first | omega
 refine hK1 _ _ _ ?_; clear hK1
 refine AW.seq fun K2 hK2 => ?_
 refine AW.regionK 0 (fun ii => if ii = 1 then some (.reads false (.tup [.nilsl, .int .i64 9])) else none) [1, 4, 5] [1] ?_
 simp only [go_sem, reduceIte, reduceCtorEq, zA, zM, zE, zL, zD, zS, zP, zB, zI, zR]
 repeat with_reducible refine cj ?_ ?_
 all_goals try first | (exact he) | omega | exact ent (by kernel_rfl)
 refine hK2 _ _ _ ?_; clear hK2
 refine AW.seq fun K3 hK3 => ?_
 refine AW.seq fun K4 hK4 => ?_
 refine AW.regionK 0 (fun _ => none) [1, 4, 5, 23] [1] ?_
 simp only [go_sem, reduceIte, reduceCtorEq, zA, zM, zE, zL, zD, zS, zP, zB, zI, zR]
 repeat with_reducible refine cj ?_ ?_
 all_goals try first | omega
 refine hK4 _ _ _ ?_; clear hK4
 refine AW.cond rfl (by simp only [go_sem, reduceIte, reduceCtorEq, zA, zM, zE, zL, zD, zS, zP, zB, zI, zR]) ?_ ?_
 ·intro hb
  try simp only [hB, decide_eq_true_eq, decide_eq_false_iff_not] at hb
  refine AW.seq fun K5 hK5 => ?_
  refine AW.regionK 0 (fun _ => none) [2, 3] [] ?_
  simp only [go_sem, reduceIte, reduceCtorEq, zA, zM, zE, zL, zD, zS, zP, zB, zI, zR]
  repeat with_reducible refine cj ?_ ?_
  all_goals try first | omega
  refine hK5 _ _ _ ?_; clear hK5
  refine AW.ret ?_
  rw [← hQr]
  simp only [go_sem, reduceIte, reduceCtorEq, zA, zM, zE, zL, zD, zS, zP, zB, zI, zR]
  exact Wk.refl _
 ·intro hb
  try simp only [hB, decide_eq_true_eq, decide_eq_false_iff_not] at hb
  exfalso; simp at hb
theorem vwcF_nbV (s : yap) (d : Nat) (nb : List (List Int)) : (M.nbV nb).map (fun cs => cs.map (vwcF s d)) = M.nbR nb := by
 simp [M.nbV, M.nbR, yi9, ypk]
theorem yqc (n : Nat) (t : List (List Bool)) (hs : Sq n t) (hn : n ≤ 512) (hp : poB n t = true) (hl : (yas t n).length ≤ 2000) : Reads Tryd.prog 28 true [relB t] (.tup [.rsl 1 (M.nbR (chainsT n t)), .int .i64 0]) := by
 have he := yii n t hs hn hp
 rw [if_pos hl] at he
 have hpo := (yki hs).1 hp
 have hg := gdT hn hl
 have hmx := M.max_good hg.valid
 have hpl := plT hg
 have hQl : (M.maxP n n (yas t n)).length ≤ n := yrl _ _
 have hmem := fun p => (pairsT_mem (t := t) (n := n) (p := p)).1
 have hr1 := M.repeat_u (-1) n (by omega)
 have hr2 := repeatb_u true n (by omega)
 have htl : (tabR t).length = n := by rw [yb2, hs.len]
 have hQe := hpl.hE
 have hEr := hg.hE
 have hNl := (yrt n n (M.maxP n n (yas t n))).1
 have hMch := hpl.hM
 have hnbm := fun i r => (yct (n := n) hg.hE i r).1
 unfold chainsT nxtT begT
 generalize hQ : M.maxP n n (yas t n) = Q at *
 have hi1 : ints [-1] = [[.int .i64 (-1)]] := rfl
 have hi2 : ya9 [true] = [[.bool true]] := rfl
 rw [hi1] at hr1
 rw [hi2] at hr2
 unfold relB at *
 refine Reads.bodyF (rs := [.tmp 2, .tmp 3]) Tryd.func28 rfl Tryd.ntmps28 rfl (by simp) ?_
 generalize hQr : retQ _ _ _ = Qr
 refine AW.seq fun K1 hK1 => ?_
 refine AW.regionK 0 (fun _ => none) [1] [1, 40, 43] ?_
 simp only [go_sem, reduceIte, reduceCtorEq, zA, zM, zE, zL, zD, zS, zP, zB, zI, zR, htl, yac, yag]
 repeat with_reducible refine cj ?_ ?_
 all_goals try first | omega
 refine hK1 _ _ _ ?_; clear hK1
 refine AW.seq fun K2 hK2 => ?_
 refine AW.regionK 0 (fun ii => if ii = 1 then some (.reads false (.tup [.rsl 2 ((yas t n).map ya8), .int .i64 0])) else none) [1, 4, 5] [1, 40, 43] ?_
 simp only [go_sem, reduceIte, reduceCtorEq, zA, zM, zE, zL, zD, zS, zP, zB, zI, zR, htl, yac, yag]
 repeat with_reducible refine cj ?_ ?_
 all_goals try first | (exact he) | omega | exact ent (by kernel_rfl)
 refine hK2 _ _ _ ?_; clear hK2
 refine AW.seq fun K3 hK3 => ?_
 refine AW.seq fun K4 hK4 => ?_
 refine AW.regionK 0 (fun _ => none) [1, 4, 5, 23] [1, 40, 43] ?_
 simp only [go_sem, reduceIte, reduceCtorEq, zA, zM, zE, zL, zD, zS, zP, zB, zI, zR, htl, yac, yag]
 repeat with_reducible refine cj ?_ ?_
 all_goals try first | omega
 refine hK4 _ _ _ ?_; clear hK4
 refine AW.cond rfl (by simp only [go_sem, reduceIte, reduceCtorEq, zA, zM, zE, zL, zD, zS, zP, zB, zI, zR]) ?_ ?_
 ·intro hb
  try simp only [hB, decide_eq_true_eq, decide_eq_false_iff_not] at hb
  exfalso; simp at hb
 ·intro hb
  try simp only [hB, decide_eq_true_eq, decide_eq_false_iff_not] at hb
  refine AW.skip ?_
  refine hK3 _ _ _ ?_; clear hK3
  refine AW.seq fun K5 hK5 => ?_
  refine AW.regionK 0 (fun _ => none) [4, 6] [40, 43] ?_
  simp only [go_sem, reduceIte, reduceCtorEq, zA, zM, zE, zL, zD, zS, zP, zB, zI, zR, htl, yac, yag]
  repeat with_reducible refine cj ?_ ?_
  all_goals try first | omega
  refine hK5 _ _ _ ?_; clear hK5
  refine AW.seq fun K6 hK6 => ?_
  refine AW.regionK 0 (fun ii => if ii = 3 then some (.reads false (.tup [.rsl 2 (Q.map ya8), .int .i64 0])) else none) [5, 6, 7] [40, 43] ?_
  simp only [go_sem, reduceIte, reduceCtorEq, zA, zM, zE, zL, zD, zS, zP, zB, zI, zR, htl, yac, yag]
  repeat with_reducible refine cj ?_ ?_
  all_goals try first | (exact hmx) | omega | exact ent (by kernel_rfl)
  refine hK6 _ _ _ ?_; clear hK6
  refine AW.seq fun K7 hK7 => ?_
  refine AW.seq fun K8 hK8 => ?_
  refine AW.regionK 0 (fun _ => none) [5, 6, 7, 36] [40, 43] ?_
  simp only [go_sem, reduceIte, reduceCtorEq, zA, zM, zE, zL, zD, zS, zP, zB, zI, zR, htl, yac, yag]
  repeat with_reducible refine cj ?_ ?_
  all_goals try first | omega
  refine hK8 _ _ _ ?_; clear hK8
  refine AW.cond rfl (by simp only [go_sem, reduceIte, reduceCtorEq, zA, zM, zE, zL, zD, zS, zP, zB, zI, zR]) ?_ ?_
  ·intro hb
   try simp only [hB, decide_eq_true_eq, decide_eq_false_iff_not] at hb
   exfalso; simp at hb
  ·intro hb
   try simp only [hB, decide_eq_true_eq, decide_eq_false_iff_not] at hb
   refine AW.skip ?_
   refine hK7 _ _ _ ?_; clear hK7
   refine AW.seq fun K9 hK9 => ?_
   refine AW.regionK 0 (fun ii => if ii = 2 then some (.upd [38] (fun k => [(1, some ⟨k, k, 1, ints (List.replicate n (-1))⟩)]) (fun k => .sl ⟨1, k, none⟩ 0 n none)) else none) [6, 7, 8] [40] ?_
   simp only [go_sem, reduceIte, reduceCtorEq, zA, zM, zE, zL, zD, zS, zP, zB, zI, zR, htl, yac, yag]
   repeat with_reducible refine cj ?_ ?_
   all_goals try first | (exact hr1 _ _) | omega | exact ent (by kernel_rfl)
   refine hK9 _ _ _ ?_; clear hK9
   refine AW.seq fun K10 hK10 => ?_
   refine AW.regionK 0 (fun ii => if ii = 2 then some (.upd [41] (fun k => [(1, some ⟨k, k, 1, ya9 (List.replicate n true)⟩)]) (fun k => .sl ⟨1, k, none⟩ 0 n none)) else none) [7, 8, 9] [40, 43] ?_
   simp only [go_sem, reduceIte, reduceCtorEq, zA, zM, zE, zL, zD, zS, zP, zB, zI, zR, htl, yac, yag]
   repeat with_reducible refine cj ?_ ?_
   all_goals try first | (exact hr2 _ _) | omega | exact ent (by kernel_rfl)
   refine hK10 _ _ _ ?_; clear hK10
   refine AW.seq fun K11 hK11 => ?_
   refine AW.seq fun K12 hK12 => ?_
   refine AW.regionK 0 (fun _ => none) [8, 9, 44, 45, 46] [40, 43] ?_
   simp only [go_sem, reduceIte, reduceCtorEq, zA, zM, zE, zL, zD, zS, zP, zB, zI, zR, htl, yac, yag]
   repeat with_reducible refine cj ?_ ?_
   all_goals try first | omega
   refine hK12 _ _ _ ?_; clear hK12
   refine AW.block ?_
   refine AW.loopE (fun mm ee ss kk => ∃ (j g1 v1 g2 v2 : Nat), Q.length - j = mm ∧ ee = [(8, .sl ⟨40, g1, none⟩ 0 n none), (9, .sl ⟨43, g2, none⟩ 0 n none), (44, .rsl 2 (Q.map ya8)), (45, .int .i64 Q.length), (46, .int .i64 (j : Nat))] ∧ ss = [(40, some ⟨g1, v1, 1, ints (plc n n (Q.take j)).1⟩), (43, some ⟨g2, v2, 1, ya9 (begF n (Q.take j))⟩)] ∧ (j ≤ Q.length)) ?_ ?_
   ·refine ⟨_, 0, ?_, ?_, ?_, ?_, rfl, ?henv, ?hstore, ?hst⟩
    case henv =>
     repeat' (first | rfl | refine yaa ?_ ?_ | refine yad ?_ ?_ ?_ ?_ | refine yah ?_ | refine yae ?_ | refine yai ?_ | refine yaj ?_ | refine yan ?_ ?_ ?_ | refine yak ?_ ?_ ?_ | refine yal ?_ | refine yaf ?_ ?_ | refine yab ?_ ?_)
     all_goals (first | (simp; done) | omega | (simp; omega))
    case hstore =>
     repeat' (first | rfl | refine yaa ?_ ?_ | refine yad ?_ ?_ ?_ ?_ | refine yah ?_ | refine yae ?_ | refine yai ?_ | refine yaj ?_ | refine yan ?_ ?_ ?_ | refine yak ?_ ?_ ?_ | refine yal ?_ | refine yaf ?_ ?_ | refine yab ?_ ?_)
     all_goals (first | rfl | (simp only [List.take_zero, yqa]; done) | (rw [List.take_zero, yqa]))
    case hst =>
     first | trivial | omega | (simp; done) | (simp; omega)
   rintro mm ee ss kk ⟨j, g1, v1, g2, v2, rfl, rfl, rfl, hI⟩
   generalize hQl1 : ybb _ _ = Ql1
   refine AW.seq fun K13 hK13 => ?_
   refine AW.regionK 0 (fun _ => none) [8, 9, 44, 45, 46, 47] [40, 43] ?_
   simp only [go_sem, reduceIte, reduceCtorEq, zA, zM, zE, zL, zD, zS, zP, zB, zI, zR, htl, yac, yag]
   repeat with_reducible refine cj ?_ ?_
   all_goals try first | omega
   refine hK13 _ _ _ ?_; clear hK13
   refine AW.seq fun K14 hK14 => ?_
   refine AW.cond rfl (by simp only [go_sem, reduceIte, reduceCtorEq, zA, zM, zE, zL, zD, zS, zP, zB, zI, zR]) ?_ ?_
   ·intro hb
    try simp only [hB, decide_eq_true_eq, decide_eq_false_iff_not] at hb
    obtain ⟨p, hpj⟩ := getI (l := Q) (j := j) (by omega)
    have hgp := getV (f := ya8) hpj
    have hr := take_edge hQe hEr hpj
    have hts : Q.take (j + 1) = Q.take j ++ [p] := by rw [List.take_add_one, hpj]; rfl
    have hps := yp8 n n hpj
    have hp1 : (plc n n (Q.take j)).1.set p.1.toNat p.2 = (plc n n (Q.take (j + 1))).1 := by rw [hps]
    have hbs := begF_snoc (n := n) (l := Q.take j) hr.2.2.1
    rw [← hts] at hbs
    have hnl := (yrt n n (Q.take j)).1
    have hbl := yp9 n (Q.take j)
    have hu1 := ints_upd (plc n n (Q.take j)).1 p.1.toNat p.2
    have hu2 := bools_upd (begF n (Q.take j)) p.2.toNat false
    rw [hp1] at hu1
    rw [hbs] at hu2
    refine AW.skip ?_
    refine hK14 _ _ _ ?_; clear hK14
    refine AW.seq fun K15 hK15 => ?_
    refine AW.block ?_
    refine AW.seq fun K16 hK16 => ?_
    refine AW.regionK 0 (fun _ => none) [8, 9, 11, 44, 45, 46] [11, 40, 43] ?_
    simp only [go_sem, reduceIte, reduceCtorEq, zA, zM, zE, zL, zD, zS, zP, zB, zI, zR, htl, yac, yag, hgp, ya8]
    repeat with_reducible refine cj ?_ ?_
    all_goals try first | omega
    refine hK16 _ _ _ ?_; clear hK16
    refine AW.seq fun K17 hK17 => ?_
    refine AW.regionK 0 (fun _ => none) [8, 9, 11, 44, 45, 46] [11, 40, 43] ?_
    simp only [go_sem, reduceIte, reduceCtorEq, zA, zM, zE, zL, zD, zS, zP, zB, zI, zR, htl, yac, yag, hnl, hu1]
    repeat with_reducible refine cj ?_ ?_
    all_goals try first | omega
    refine hK17 _ _ _ ?_; clear hK17
    refine AW.regionK 0 (fun _ => none) [8, 9, 44, 45, 46] [40, 43] ?_
    simp only [go_sem, reduceIte, reduceCtorEq, zA, zM, zE, zL, zD, zS, zP, zB, zI, zR, htl, yac, yag, hbl, hu2]
    repeat with_reducible refine cj ?_ ?_
    all_goals try first | omega
    refine hK15 _ _ _ ?_; clear hK15
    refine AW.regionK 0 (fun _ => none) [8, 9, 44, 45, 46] [40, 43] ?_
    simp only [go_sem, reduceIte, reduceCtorEq, zA, zM, zE, zL, zD, zS, zP, zB, zI, zR, htl, yac, yag]
    repeat with_reducible refine cj ?_ ?_
    all_goals try first | omega
    rw [← hQl1]
    change Exists _
    refine ⟨_, ?hm, j + 1, ?_, ?_, ?_, ?_, rfl, ?henv, ?hstore, ?hst⟩
    case henv =>
     repeat' (first | rfl | refine yaa ?_ ?_ | refine yad ?_ ?_ ?_ ?_ | refine yah ?_ | refine yae ?_ | refine yai ?_ | refine yaj ?_ | refine yan ?_ ?_ ?_ | refine yak ?_ ?_ ?_ | refine yal ?_ | refine yaf ?_ ?_ | refine yab ?_ ?_)
     all_goals (first | (simp; done) | omega | (simp; omega))
    case hstore =>
     repeat' (first | rfl | refine yaa ?_ ?_ | refine yad ?_ ?_ ?_ ?_ | refine yah ?_ | refine yae ?_ | refine yai ?_ | refine yaj ?_ | refine yan ?_ ?_ ?_ | refine yak ?_ ?_ ?_ | refine yal ?_ | refine yaf ?_ ?_ | refine yab ?_ ?_)
     all_goals (first | (simp; done) | omega | (simp; omega))
    case hst =>
     first | trivial | omega | (simp; done) | (simp; omega)
    case hm => omega
   ·intro hb
    try simp only [hB, decide_eq_true_eq, decide_eq_false_iff_not] at hb
    have hj2 : j = Q.length := by omega
    subst hj2
    rw [List.take_length]
    refine AW.exit ?_
    rw [← hQl1]
    refine hK11 _ _ _ ?_; clear hK11
    refine AW.seq fun K18 hK18 => ?_
    refine AW.regionK 0 (fun _ => none) [8, 9, 12] [40, 43] ?_
    simp only [go_sem, reduceIte, reduceCtorEq, zA, zM, zE, zL, zD, zS, zP, zB, zI, zR, htl, yac, yag]
    repeat with_reducible refine cj ?_ ?_
    all_goals try first | omega
    refine hK18 _ _ _ ?_; clear hK18
    refine AW.seq fun K19 hK19 => ?_
    refine AW.seq fun K20 hK20 => ?_
    refine AW.regionK 0 (fun _ => none) [8, 12, 61, 62, 63] [40, 43] ?_
    simp only [go_sem, reduceIte, reduceCtorEq, zA, zM, zE, zL, zD, zS, zP, zB, zI, zR, htl, yac, yag]
    repeat with_reducible refine cj ?_ ?_
    all_goals try first | omega
    refine hK20 _ _ _ ?_; clear hK20
    refine AW.block ?_
    refine AW.nilOwn 12 200 1 (by simp only [go_sem, reduceIte, zE]) ?_
    refine AW.keep [8, 12, 61, 62, 63] [40, 43, 200] ?_
    simp only [go_sem, reduceIte, zE]
    have hbl := yp9 n Q
    generalize hN : (plc n n Q).1 = N at *
    generalize begF n Q = B at *
    refine AW.loopE (fun mm ee ss kk => ∃ (j g1 v1 g2 v2 g v : Nat), n - j = mm ∧ ee = [(8, .sl ⟨40, g1, none⟩ 0 n none), (12, .sl ⟨200, g, none⟩ 0 (chAt N B n j).length none), (61, .sl ⟨43, g2, none⟩ 0 n none), (62, .int .i64 n), (63, .int .i64 (j : Nat))] ∧ ss = [(40, some ⟨g1, v1, 1, ints N⟩), (43, some ⟨g2, v2, 1, ya9 B⟩), (200, some ⟨g, v, 1, M.nbV (chAt N B n j)⟩)] ∧ (j ≤ n)) ?_ ?_
    ·refine ⟨_, 0, ?_, ?_, ?_, ?_, ?_, ?_, rfl, ?henv, ?hstore, ?hst⟩
     case henv =>
      repeat' (first | rfl | refine yaa ?_ ?_ | refine yad ?_ ?_ ?_ ?_ | refine yah ?_ | refine yae ?_ | refine yai ?_ | refine yaj ?_ | refine yan ?_ ?_ ?_ | refine yak ?_ ?_ ?_ | refine yal ?_ | refine yaf ?_ ?_ | refine yab ?_ ?_)
      all_goals (first | (simp; done) | omega | (simp; omega))
     case hstore =>
      repeat' (first | rfl | refine yaa ?_ ?_ | refine yad ?_ ?_ ?_ ?_ | refine yah ?_ | refine yae ?_ | refine yai ?_ | refine yaj ?_ | refine yan ?_ ?_ ?_ | refine yak ?_ ?_ ?_ | refine yal ?_ | refine yaf ?_ ?_ | refine yab ?_ ?_)
      all_goals (first | (simp; done) | omega | (simp; omega))
     case hst =>
      first | trivial | omega | (simp; done) | (simp; omega)
    rintro mm ee ss kk ⟨j, g1, v1, g2, v2, g, v, rfl, rfl, rfl, hI⟩
    generalize hQl2 : ybb _ _ = Ql2
    refine AW.seq fun K21 hK21 => ?_
    refine AW.regionK 0 (fun _ => none) [8, 12, 61, 62, 63, 64] [40, 43, 200] ?_
    simp only [go_sem, reduceIte, reduceCtorEq, zA, zM, zE, zL, zD, zS, zP, zB, zI, zR, htl, yac, yag]
    repeat with_reducible refine cj ?_ ?_
    all_goals try first | omega
    refine hK21 _ _ _ ?_; clear hK21
    refine AW.seq fun K22 hK22 => ?_
    refine AW.cond rfl (by simp only [go_sem, reduceIte, reduceCtorEq, zA, zM, zE, zL, zD, zS, zP, zB, zI, zR]) ?_ ?_
    ·intro hb
     try simp only [hB, decide_eq_true_eq, decide_eq_false_iff_not] at hb
     have hgb := ybx (l := B) (i := j) (by omega)
     have hsu := chAt_succ N B n j
     have hcl := chAt_le N B n j
     have htk : (M.nbV (chAt N B n j)).take (chAt N B n j).length = M.nbV (chAt N B n j) := List.take_of_length_le (by rw [M.nbV_len]; exact Nat.le_refl _)
     have hap := nbV_app (chAt N B n j) (chR N (n + 1) j)
     have hvl := M.nbV_len (chAt N B n j)
     generalize hX : chAt N B n j = X at *
     have hgl := fun x => yrf (M.nbV X) x hvl
     have hsl := fun x y => yrg (M.nbV X) x y hvl
     have hll := fun x => yrh (M.nbV X) x hvl
     refine AW.skip ?_
     refine hK22 _ _ _ ?_; clear hK22
     refine AW.seq fun K23 hK23 => ?_
     refine AW.block ?_
     refine AW.seq fun K24 hK24 => ?_
     refine AW.regionK 0 (fun _ => none) [8, 12, 13, 14, 61, 62, 63] [40, 43, 200] ?_
     simp only [go_sem, reduceIte, reduceCtorEq, zA, zM, zE, zL, zD, zS, zP, zB, zI, zR, htl, yac, yag, hbl, hgb]
     repeat with_reducible refine cj ?_ ?_
     all_goals try first | omega
     refine hK24 _ _ _ ?_; clear hK24
     refine AW.seq fun K25 hK25 => ?_
     refine AW.seq fun K26 hK26 => ?_
     refine AW.regionK 0 (fun _ => none) [8, 12, 13, 61, 62, 63, 69] [40, 43, 200] ?_
     simp only [go_sem, reduceIte, reduceCtorEq, zA, zM, zE, zL, zD, zS, zP, zB, zI, zR, htl, yac, yag]
     repeat with_reducible refine cj ?_ ?_
     all_goals try first | omega
     refine hK26 _ _ _ ?_; clear hK26
     refine AW.cond rfl (by simp only [go_sem, reduceIte, reduceCtorEq, zA, zM, zE, zL, zD, zS, zP, zB, zI, zR]) ?_ ?_
     ·intro hb
      try simp only [hB, decide_eq_true_eq, decide_eq_false_iff_not] at hb
      rw [if_neg (by rw [hb]; simp)] at hsu
      refine AW.exit ?_
      refine hK23 _ _ _ ?_; clear hK23
      refine AW.regionK 0 (fun _ => none) [8, 12, 61, 62, 63] [40, 43, 200] ?_
      simp only [go_sem, reduceIte, reduceCtorEq, zA, zM, zE, zL, zD, zS, zP, zB, zI, zR, htl, yac, yag]
      repeat with_reducible refine cj ?_ ?_
      all_goals try first | omega
      rw [← hQl2]
      change Exists _
      refine ⟨_, ?hm, j + 1, ?_, ?_, ?_, ?_, ?_, ?_, rfl, ?henv, ?hstore, ?hst⟩
      case henv =>
       repeat' (first | rfl | refine yaa ?_ ?_ | refine yad ?_ ?_ ?_ ?_ | refine yah ?_ | refine yae ?_ | refine yai ?_ | refine yaj ?_ | refine yan ?_ ?_ ?_ | refine yak ?_ ?_ ?_ | refine yal ?_ | refine yaf ?_ ?_ | refine yab ?_ ?_)
       all_goals (first | (rw [hsu]; done) | (rw [hsu]; simp; done) | omega | (simp; done))
      case hstore =>
       repeat' (first | rfl | refine yaa ?_ ?_ | refine yad ?_ ?_ ?_ ?_ | refine yah ?_ | refine yae ?_ | refine yai ?_ | refine yaj ?_ | refine yan ?_ ?_ ?_ | refine yak ?_ ?_ ?_ | refine yal ?_ | refine yaf ?_ ?_ | refine yab ?_ ?_)
       all_goals (rw [hsu])
      case hst =>
       first | trivial | omega | (simp; done) | (simp; omega)
      case hm => omega
     ·intro hb
      try simp only [hB, decide_eq_true_eq, decide_eq_false_iff_not] at hb
      rw [if_pos hb] at hsu
      have hup := upc_le n t j
      obtain ⟨C, hC⟩ : ∃ C, chR N (n + 1) (j : Int) = C := ⟨_, rfl⟩
      rw [hC] at hsu hap
      refine AW.skip ?_
      refine hK25 _ _ _ ?_; clear hK25
      refine AW.seq fun K27 hK27 => ?_
      refine AW.regionK 0 (fun _ => none) [8, 12, 13, 15, 61, 62, 63] [40, 43, 200] ?_
      simp only [go_sem, reduceIte, reduceCtorEq, zA, zM, zE, zL, zD, zS, zP, zB, zI, zR, htl, yac, yag]
      repeat with_reducible refine cj ?_ ?_
      all_goals try first | omega
      refine hK27 _ _ _ ?_; clear hK27
      refine AW.seq fun K28 hK28 => ?_
      refine AW.seq fun K29 hK29 => ?_
      refine AW.regionK 0 (fun _ => none) [8, 12, 15, 16, 61, 62, 63] [40, 43, 200] ?_
      simp only [go_sem, reduceIte, reduceCtorEq, zA, zM, zE, zL, zD, zS, zP, zB, zI, zR, htl, yac, yag]
      repeat with_reducible refine cj ?_ ?_
      all_goals try first | omega
      refine hK29 _ _ _ ?_; clear hK29
      refine AW.block ?_
      refine AW.nilOwn 15 201 1 (by simp only [go_sem, reduceIte, zE]) ?_
      refine AW.keep [8, 12, 15, 16, 61, 62, 63] [40, 43, 200, 201] ?_
      simp only [go_sem, reduceIte, zE]
      refine AW.loopE (fun mm ee ss kk => ∃ (fu g1 v1 g2 v2 g v g3 v3 : Nat) (a : Int) (acc : List Int), fu + 1 = mm ∧ ee = [(8, .sl ⟨40, g1, none⟩ 0 n none), (12, .sl ⟨200, g, none⟩ 0 X.length none), (15, .sl ⟨201, g3, none⟩ 0 acc.length none), (16, .int .i64 a), (61, .sl ⟨43, g2, none⟩ 0 n none), (62, .int .i64 n), (63, .int .i64 (j : Nat))] ∧ ss = [(40, some ⟨g1, v1, 1, ints N⟩), (43, some ⟨g2, v2, 1, ya9 B⟩), (200, some ⟨g, v, 1, M.nbV X⟩), (201, some ⟨g3, v3, 1, ints acc⟩)] ∧ (acc ++ chR N fu a = C ∧ acc.length + fu ≤ n + 1 ∧ (0 ≤ a → a < n ∧ upc n t a.toNat < fu))) ?_ ?_
      ·refine ⟨_, (n + 1), ?_, ?_, ?_, ?_, ?_, ?_, ?_, ?_, (j : Int), [], rfl, ?henv, ?hstore, ?hst⟩
       case henv =>
        repeat' (first | rfl | refine yaa ?_ ?_ | refine yad ?_ ?_ ?_ ?_ | refine yah ?_ | refine yae ?_ | refine yai ?_ | refine yaj ?_ | refine yan ?_ ?_ ?_ | refine yak ?_ ?_ ?_ | refine yal ?_ | refine yaf ?_ ?_ | refine yab ?_ ?_)
        all_goals (first | (simp; done) | omega | (simp; omega))
       case hstore =>
        repeat' (first | rfl | refine yaa ?_ ?_ | refine yad ?_ ?_ ?_ ?_ | refine yah ?_ | refine yae ?_ | refine yai ?_ | refine yaj ?_ | refine yan ?_ ?_ ?_ | refine yak ?_ ?_ ?_ | refine yal ?_ | refine yaf ?_ ?_ | refine yab ?_ ?_)
        all_goals (first | (simp; done) | omega | (simp; omega))
       case hst =>
        exact ⟨by simpa using hC, by simp, fun _ => ⟨by omega, by rw [Int.toNat_natCast]; omega⟩⟩
      rintro mm ee ss kk ⟨fu, g1, v1, g2, v2, g, v, g3, v3, a, acc, rfl, rfl, rfl, hI⟩
      generalize hQl3 : ybb _ _ = Ql3
      obtain ⟨hcc, hal, hau⟩ := hI
      refine AW.seq fun K30 hK30 => ?_
      refine AW.seq fun K31 hK31 => ?_
      refine AW.regionK 0 (fun _ => none) [8, 12, 15, 16, 61, 62, 63, 72] [40, 43, 200, 201] ?_
      simp only [go_sem, reduceIte, reduceCtorEq, zA, zM, zE, zL, zD, zS, zP, zB, zI, zR, htl, yac, yag]
      repeat with_reducible refine cj ?_ ?_
      all_goals try first | omega
      refine hK31 _ _ _ ?_; clear hK31
      refine AW.cond rfl (by simp only [go_sem, reduceIte, reduceCtorEq, zA, zM, zE, zL, zD, zS, zP, zB, zI, zR]) ?_ ?_
      ·intro hb
       try simp only [hB, decide_eq_true_eq, decide_eq_false_iff_not] at hb
       obtain ⟨han, hauc⟩ := hau hb
       obtain ⟨fu, rfl⟩ : ∃ f, fu = f + 1 := ⟨fu - 1, by omega⟩
       unfold chR at hcc
       rw [if_pos hb] at hcc
       have hgn := ybg (l := N) (i := a.toNat) (by omega)
       have hak : (ints acc).take acc.length = ints acc := List.take_of_length_le (by rw [yac]; exact Nat.le_refl _)
       have has : ints acc ++ [[.int .i64 a]] = ints (acc ++ [a]) := by simp [ints]
       have hnx : 0 ≤ N.getD a.toNat 0 → N.getD a.toNat 0 < n ∧ upc n t (N.getD a.toNat 0).toNat < fu := fun h0 => by
        rw [yi4 (by omega)] at h0 ⊢
        have h1 := hMch.hE a.toNat h0
        obtain ⟨i, k, e, hi, hk, hik⟩ := hmem _ (hnbm _ _ h1)
        simp only [Prod.mk.injEq] at e
        have e1 : a.toNat = i := by omega
        have e2 : (gi N a.toNat).toNat = k := by omega
        have h2 := upc_lt hpo hi hk hik
        rw [e2]
        rw [e1] at hauc
        exact ⟨by omega, by omega⟩
       refine AW.skip ?_
       refine hK30 _ _ _ ?_; clear hK30
       refine AW.seq fun K32 hK32 => ?_
       refine AW.block ?_
       refine AW.regionK 0 (fun _ => none) [8, 12, 15, 16, 61, 62, 63] [40, 43, 200, 201] ?_
       simp only [go_sem, reduceIte, reduceCtorEq, zA, zM, zE, zL, zD, zS, zP, zB, zI, zR, htl, yac, yag, hak, has]
       repeat with_reducible refine cj ?_ ?_
       all_goals try first | omega | (simp [scP, ybk]; done) | exact ybe _ | exact ybh _ | exact ybf _
       refine hK32 _ _ _ ?_; clear hK32
       refine AW.regionK 0 (fun _ => none) [8, 12, 15, 16, 61, 62, 63] [40, 43, 200, 201] ?_
       simp only [go_sem, reduceIte, reduceCtorEq, zA, zM, zE, zL, zD, zS, zP, zB, zI, zR, htl, yac, yag, hNl, hgn]
       repeat with_reducible refine cj ?_ ?_
       all_goals try first | omega
       rw [← hQl3]
       change Exists _
       refine ⟨_, ?hm, fu, ?_, ?_, ?_, ?_, ?_, ?_, ?_, ?_, ?_, acc ++ [a], rfl, ?henv, ?hstore, ?hst⟩
       case henv =>
        repeat' (first | rfl | refine yaa ?_ ?_ | refine yad ?_ ?_ ?_ ?_ | refine yah ?_ | refine yae ?_ | refine yai ?_ | refine yaj ?_ | refine yan ?_ ?_ ?_ | refine yak ?_ ?_ ?_ | refine yal ?_ | refine yaf ?_ ?_ | refine yab ?_ ?_)
        all_goals (first | (simp; done) | omega | (simp; omega))
       case hstore =>
        repeat' (first | rfl | refine yaa ?_ ?_ | refine yad ?_ ?_ ?_ ?_ | refine yah ?_ | refine yae ?_ | refine yai ?_ | refine yaj ?_ | refine yan ?_ ?_ ?_ | refine yak ?_ ?_ ?_ | refine yal ?_ | refine yaf ?_ ?_ | refine yab ?_ ?_)
        all_goals (first | (simp; done) | omega | (simp; omega))
       case hst =>
        exact ⟨by rw [List.append_assoc]; exact hcc, by rw [List.length_append]; simp; omega, hnx⟩
       case hm => omega
      ·intro hb
       try simp only [hB, decide_eq_true_eq, decide_eq_false_iff_not] at hb
       have hC2 : acc = C := by
        rw [← hcc]
        cases fu with
        | zero => simp [chR]
        | succ f => unfold chR; rw [if_neg (by omega)]; simp
       have hal2 : acc.length ≤ 100000 := by omega
       clear hcc
       subst hC2
       refine AW.exit ?_
       rw [← hQl3]
       refine hK28 _ _ _ ?_; clear hK28
       refine AW.regionK 0 (fun _ => none) [8, 12, 61, 62, 63] [40, 43, 200, 201] ?_
       simp only [go_sem, reduceIte, reduceCtorEq, zA, zM, zE, zL, zD, zS, zP, zB, zI, zR, htl, yac, yag, htk, hvl]
       repeat with_reducible refine cj ?_ ?_
       all_goals try first | omega | (simp [scP, ybk]; done) | exact ybe _ | exact ybh _ | exact ybf _
       refine hK23 _ _ _ ?_; clear hK23
       refine AW.adoptK 200 X.length 0 201 ?_
       simp only [go_sem, reduceIte, zE, hgl, hsl, hll]
       repeat refine cj ?_ ?_
       any_goals first | exact yla _ | decide | (rw [yac]; done) | omega
       refine AW.keep [8, 12, 61, 62, 63] [40, 43, 200] ?_
       simp only [go_sem, reduceIte, zE, hap]
       refine AW.regionK 0 (fun _ => none) [8, 12, 61, 62, 63] [40, 43, 200] ?_
       simp only [go_sem, reduceIte, reduceCtorEq, zA, zM, zE, zL, zD, zS, zP, zB, zI, zR, htl, yac, yag]
       repeat with_reducible refine cj ?_ ?_
       all_goals try first | omega
       rw [← hQl2]
       change Exists _
       refine ⟨_, ?hm, j + 1, ?_, ?_, ?_, ?_, ?_, ?_, rfl, ?henv, ?hstore, ?hst⟩
       case henv =>
        repeat' (first | rfl | refine yaa ?_ ?_ | refine yad ?_ ?_ ?_ ?_ | refine yah ?_ | refine yae ?_ | refine yai ?_ | refine yaj ?_ | refine yan ?_ ?_ ?_ | refine yak ?_ ?_ ?_ | refine yal ?_ | refine yaf ?_ ?_ | refine yab ?_ ?_)
        all_goals (first | (rw [hsu]; done) | (rw [hsu]; simp; done) | omega | (simp; done))
       case hstore =>
        repeat' (first | rfl | refine yaa ?_ ?_ | refine yad ?_ ?_ ?_ ?_ | refine yah ?_ | refine yae ?_ | refine yai ?_ | refine yaj ?_ | refine yan ?_ ?_ ?_ | refine yak ?_ ?_ ?_ | refine yal ?_ | refine yaf ?_ ?_ | refine yab ?_ ?_)
        all_goals (rw [hsu])
       case hst =>
        first | trivial | omega | (simp; done) | (simp; omega)
       case hm => omega
    ·intro hb
     try simp only [hB, decide_eq_true_eq, decide_eq_false_iff_not] at hb
     have hj2 : j = n := by omega
     subst hj2
     have htk : (M.nbV (chAt N B j j)).take (chAt N B j j).length = M.nbV (chAt N B j j) := List.take_of_length_le (by rw [M.nbV_len]; exact Nat.le_refl _)
     refine AW.exit ?_
     rw [← hQl2]
     refine hK19 _ _ _ ?_; clear hK19
     refine AW.seq fun K33 hK33 => ?_
     refine AW.regionK 0 (fun _ => none) [2, 3] [200] ?_
     simp only [go_sem, reduceIte, reduceCtorEq, zA, zM, zE, zL, zD, zS, zP, zB, zI, zR, htl, yac, yag]
     repeat with_reducible refine cj ?_ ?_
     all_goals try first | omega
     refine hK33 _ _ _ ?_; clear hK33
     refine AW.ret ?_
     rw [← hQr]
     simp only [go_sem, reduceIte, reduceCtorEq, zA, zM, zE, zL, zD, zS, zP, zB, zI, zR, htl, yac, yag]
     exact Wk.of_eq (by simp only [htk, vwcF_nbV])
end Go.Proofs.W

namespace Go.Proofs.W
open Go.AM Go
set_option maxRecDepth 100000
set_option maxHeartbeats 2000000
theorem yru (es : List (List AV)) (h : Reads Tryd.prog 46 false [.agg [.rsl 2 es]] (.bool false)) : Reads Tryd.prog 12 false [.agg [.rsl 2 es]] (.tup [.int .i64 0, .int .i64 1]) := by
 have he := ymm es h
 refine Reads.body (rs := [.tmp 2, .tmp 3]) Tryd.func12 rfl Tryd.ntmps12 rfl (by simp) ?_
 generalize hQr : retQ _ _ _ = Qr
 refine AW.seq fun K1 hK1 => ?_
 refine AW.regionK 0 (fun _ => none) [1] [1] ?_
 simp only [go_sem, reduceIte, reduceCtorEq, zA, zM, zE, zL, zD, zS, zP, zB, zI, zR]
 repeat with_reducible refine cj ?_ ?_
 all_goals try first | omega
 refine hK1 _ _ _ ?_; clear hK1
 refine AW.seq fun K2 hK2 => ?_
 refine AW.regionK 0 (fun ii => if ii = 1 then some (.reads false (.tup [.nilsl, .int .i64 1])) else none) [4, 5] [] ?_
 simp only [go_sem, reduceIte, reduceCtorEq, zA, zM, zE, zL, zD, zS, zP, zB, zI, zR]
 repeat with_reducible refine cj ?_ ?_
 all_goals try first | (exact he) | omega | exact ent (by kernel_rfl)
 refine hK2 _ _ _ ?_; clear hK2
 refine AW.seq fun K3 hK3 => ?_
 refine AW.regionK 0 (fun _ => none) [2, 3] [] ?_
 simp only [go_sem, reduceIte, reduceCtorEq, zA, zM, zE, zL, zD, zS, zP, zB, zI, zR]
 repeat with_reducible refine cj ?_ ?_
 all_goals try first | omega
 refine hK3 _ _ _ ?_; clear hK3
 refine AW.ret ?_
 rw [← hQr]
 simp only [go_sem, reduceIte, reduceCtorEq, zA, zM, zE, zL, zD, zS, zP, zB, zI, zR]
 exact Wk.refl _
theorem width_b (n : Nat) (t : List (List Bool)) (hs : Sq n t) (hn : n ≤ 512) (hp : poB n t = true) (hbig : ¬ (yas t n).length ≤ 2000) : Reads Tryd.prog 12 false [relB t] (.tup [.int .i64 0, .int .i64 9]) := by
 have he := yqb n t hs hn hp hbig
 unfold relB at *
 refine Reads.body (rs := [.tmp 2, .tmp 3]) Tryd.func12 rfl Tryd.ntmps12 rfl (by simp) ?_
 generalize hQr : retQ _ _ _ = Qr
 refine AW.seq fun K1 hK1 => ?_
 refine AW.regionK 0 (fun _ => none) [1] [1] ?_
 simp only [go_sem, reduceIte, reduceCtorEq, zA, zM, zE, zL, zD, zS, zP, zB, zI, zR]
 repeat with_reducible refine cj ?_ ?_
 all_goals try first | omega
 refine hK1 _ _ _ ?_; clear hK1
 refine AW.seq fun K2 hK2 => ?_
 refine AW.regionK 0 (fun ii => if ii = 1 then some (.reads false (.tup [.nilsl, .int .i64 9])) else none) [4, 5] [] ?_
 simp only [go_sem, reduceIte, reduceCtorEq, zA, zM, zE, zL, zD, zS, zP, zB, zI, zR]
 repeat with_reducible refine cj ?_ ?_
 all_goals try first | (exact he) | omega | exact ent (by kernel_rfl)
 refine hK2 _ _ _ ?_; clear hK2
 refine AW.seq fun K3 hK3 => ?_
 refine AW.regionK 0 (fun _ => none) [2, 3] [] ?_
 simp only [go_sem, reduceIte, reduceCtorEq, zA, zM, zE, zL, zD, zS, zP, zB, zI, zR]
 repeat with_reducible refine cj ?_ ?_
 all_goals try first | omega
 refine hK3 _ _ _ ?_; clear hK3
 refine AW.ret ?_
 rw [← hQr]
 simp only [go_sem, reduceIte, reduceCtorEq, zA, zM, zE, zL, zD, zS, zP, zB, zI, zR]
 exact Wk.refl _
theorem yrv (n : Nat) (t : List (List Bool)) (hs : Sq n t) (hn : n ≤ 512) (hp : poB n t = true) (hl : (yas t n).length ≤ 2000) : Reads Tryd.prog 12 false [relB t] (.tup [.int .i64 ((chainsT n t).length : Nat), .int .i64 0]) := by
 have he := (yqc n t hs hn hp hl).old
 have hnl := M.nbR_len (chainsT n t)
 unfold relB at *
 generalize chainsT n t = C at *
 refine Reads.body (rs := [.tmp 2, .tmp 3]) Tryd.func12 rfl Tryd.ntmps12 rfl (by simp) ?_
 generalize hQr : retQ _ _ _ = Qr
 refine AW.seq fun K1 hK1 => ?_
 refine AW.regionK 0 (fun _ => none) [1] [1] ?_
 simp only [go_sem, reduceIte, reduceCtorEq, zA, zM, zE, zL, zD, zS, zP, zB, zI, zR, hnl]
 repeat with_reducible refine cj ?_ ?_
 all_goals try first | omega
 refine hK1 _ _ _ ?_; clear hK1
 refine AW.seq fun K2 hK2 => ?_
 refine AW.regionK 0 (fun ii => if ii = 1 then some (.reads false (.tup [.rsl 1 (M.nbR C), .int .i64 0])) else none) [4, 5] [] ?_
 simp only [go_sem, reduceIte, reduceCtorEq, zA, zM, zE, zL, zD, zS, zP, zB, zI, zR, hnl]
 repeat with_reducible refine cj ?_ ?_
 all_goals try first | (exact he) | omega | exact ent (by kernel_rfl)
 refine hK2 _ _ _ ?_; clear hK2
 refine AW.seq fun K3 hK3 => ?_
 refine AW.regionK 0 (fun _ => none) [2, 3] [] ?_
 simp only [go_sem, reduceIte, reduceCtorEq, zA, zM, zE, zL, zD, zS, zP, zB, zI, zR, hnl]
 repeat with_reducible refine cj ?_ ?_
 all_goals try first | omega
 refine hK3 _ _ _ ?_; clear hK3
 refine AW.ret ?_
 rw [← hQr]
 simp only [go_sem, reduceIte, reduceCtorEq, zA, zM, zE, zL, zD, zS, zP, zB, zI, zR, hnl]
 exact Wk.refl _
/-- The greatest of the first j + 1 numbers. -/
def mxU (l : List Int) : Nat → Int
 | 0 => l.getD 0 0
 | j + 1 => max (mxU l j) (l.getD (j + 1) 0)
theorem max_r (l : List Int) (hl : l.length ≤ 100000) (h0 : 1 ≤ l.length) : Reads Tryd.prog 38 false [.rsl 1 (ints l)] (.int .i64 (mxU l (l.length - 1))) := by
 have hg0 := ybg (l := l) (i := 0) (by omega)
 refine Reads.body (rs := [.tmp 2]) Tryd.func38 rfl Tryd.ntmps38 rfl (by simp) ?_
 generalize hQr : retQ _ _ _ = Qr
 refine AW.seq fun K1 hK1 => ?_
 refine AW.regionK 0 (fun _ => none) [0] [] ?_
 simp only [go_sem, reduceIte, reduceCtorEq, zA, zM, zE, zL, zD, zS, zP, zB, zI, zR, yac]
 repeat with_reducible refine cj ?_ ?_
 all_goals try first | omega
 refine hK1 _ _ _ ?_; clear hK1
 refine AW.seq fun K2 hK2 => ?_
 refine AW.seq fun K3 hK3 => ?_
 refine AW.regionK 0 (fun _ => none) [0, 7] [] ?_
 simp only [go_sem, reduceIte, reduceCtorEq, zA, zM, zE, zL, zD, zS, zP, zB, zI, zR, yac]
 repeat with_reducible refine cj ?_ ?_
 all_goals try first | omega
 refine hK3 _ _ _ ?_; clear hK3
 refine AW.cond rfl (by simp only [go_sem, reduceIte, reduceCtorEq, zA, zM, zE, zL, zD, zS, zP, zB, zI, zR]) ?_ ?_
 ·intro hb
  try simp only [hB, decide_eq_true_eq, decide_eq_false_iff_not] at hb
  exfalso; omega
 ·intro hb
  try simp only [hB, decide_eq_true_eq, decide_eq_false_iff_not] at hb
  refine AW.skip ?_
  refine hK2 _ _ _ ?_; clear hK2
  refine AW.seq fun K4 hK4 => ?_
  refine AW.regionK 0 (fun _ => none) [0, 3] [] ?_
  simp only [go_sem, reduceIte, reduceCtorEq, zA, zM, zE, zL, zD, zS, zP, zB, zI, zR, yac, hg0]
  repeat with_reducible refine cj ?_ ?_
  all_goals try first | omega
  refine hK4 _ _ _ ?_; clear hK4
  refine AW.seq fun K5 hK5 => ?_
  refine AW.seq fun K6 hK6 => ?_
  refine AW.regionK 0 (fun _ => none) [0, 3, 4] [] ?_
  simp only [go_sem, reduceIte, reduceCtorEq, zA, zM, zE, zL, zD, zS, zP, zB, zI, zR, yac]
  repeat with_reducible refine cj ?_ ?_
  all_goals try first | omega
  refine hK6 _ _ _ ?_; clear hK6
  refine AW.block ?_
  refine AW.loopE (fun mm ee ss kk => ∃ (j : Nat), l.length - j = mm ∧ ee = [(0, .rsl 1 (ints l)), (3, .int .i64 (mxU l j)), (4, .int .i64 ((j + 1 : Nat) : Int))] ∧ ss = [] ∧ (j + 1 ≤ l.length)) ?_ ?_
  ·refine ⟨_, 0, rfl, ?henv, ?hstore, ?hst⟩
   case henv =>
    repeat' (first | rfl | refine yaa ?_ ?_ | refine yad ?_ ?_ ?_ ?_ | refine yah ?_ | refine yae ?_ | refine yai ?_ | refine yaj ?_ | refine yan ?_ ?_ ?_ | refine yak ?_ ?_ ?_ | refine yal ?_ | refine yaf ?_ ?_ | refine yab ?_ ?_)
    all_goals (first | (simp; done) | omega | (simp; omega))
   case hstore =>
    repeat' (first | rfl | refine yaa ?_ ?_ | refine yad ?_ ?_ ?_ ?_ | refine yah ?_ | refine yae ?_ | refine yai ?_ | refine yaj ?_ | refine yan ?_ ?_ ?_ | refine yak ?_ ?_ ?_ | refine yal ?_ | refine yaf ?_ ?_ | refine yab ?_ ?_)
    all_goals (first | (simp; done) | omega | (simp; omega))
   case hst =>
    first | trivial | omega | (simp; done) | (simp; omega)
  rintro mm ee ss kk ⟨j, rfl, rfl, rfl, hI⟩
  generalize hQl1 : ybb _ _ = Ql1
  refine AW.seq fun K7 hK7 => ?_
  refine AW.seq fun K8 hK8 => ?_
  refine AW.regionK 0 (fun _ => none) [0, 3, 4, 15] [] ?_
  simp only [go_sem, reduceIte, reduceCtorEq, zA, zM, zE, zL, zD, zS, zP, zB, zI, zR, yac]
  repeat with_reducible refine cj ?_ ?_
  all_goals try first | omega
  refine hK8 _ _ _ ?_; clear hK8
  refine AW.cond rfl (by simp only [go_sem, reduceIte, reduceCtorEq, zA, zM, zE, zL, zD, zS, zP, zB, zI, zR]) ?_ ?_
  ·intro hb
   try simp only [hB, decide_eq_true_eq, decide_eq_false_iff_not] at hb
   have hgj := ybg (l := l) (i := j + 1) (by omega)
   have e1 : ((j + 1 : Nat) : Int).toNat = j + 1 := by omega
   have hsu : mxU l (j + 1) = max (mxU l j) (l.getD (j + 1) 0) := rfl
   refine AW.skip ?_
   refine hK7 _ _ _ ?_; clear hK7
   refine AW.seq fun K9 hK9 => ?_
   refine AW.block ?_
   refine AW.regionK 0 (fun _ => none) [0, 3, 4] [] ?_
   simp only [go_sem, reduceIte, reduceCtorEq, zA, zM, zE, zL, zD, zS, zP, zB, zI, zR, yac, hgj, e1]
   repeat with_reducible refine cj ?_ ?_
   all_goals try first | omega
   refine hK9 _ _ _ ?_; clear hK9
   refine AW.regionK 0 (fun _ => none) [0, 3, 4] [] ?_
   simp only [go_sem, reduceIte, reduceCtorEq, zA, zM, zE, zL, zD, zS, zP, zB, zI, zR, yac]
   repeat with_reducible refine cj ?_ ?_
   all_goals try first | omega
   rw [← hQl1]
   change Exists _
   refine ⟨_, ?hm, j + 1, rfl, ?henv, ?hstore, ?hst⟩
   case henv =>
    repeat' (first | rfl | refine yaa ?_ ?_ | refine yad ?_ ?_ ?_ ?_ | refine yah ?_ | refine yae ?_ | refine yai ?_ | refine yaj ?_ | refine yan ?_ ?_ ?_ | refine yak ?_ ?_ ?_ | refine yal ?_ | refine yaf ?_ ?_ | refine yab ?_ ?_)
    all_goals (first | (rw [hsu]; done) | (simp; done) | omega)
   case hstore =>
    repeat' (first | rfl | refine yaa ?_ ?_ | refine yad ?_ ?_ ?_ ?_ | refine yah ?_ | refine yae ?_ | refine yai ?_ | refine yaj ?_ | refine yan ?_ ?_ ?_ | refine yak ?_ ?_ ?_ | refine yal ?_ | refine yaf ?_ ?_ | refine yab ?_ ?_)
    all_goals (first | (simp; done) | omega | (simp; omega))
   case hst =>
    first | trivial | omega | (simp; done) | (simp; omega)
   case hm => omega
  ·intro hb
   try simp only [hB, decide_eq_true_eq, decide_eq_false_iff_not] at hb
   refine AW.keep [3] [] ?_
   try simp only [go_sem, reduceIte, reduceCtorEq, zA, zM, zE, zL, zD, zS, zP, zB, zI, zR]
   refine AW.exit ?_
   rw [← hQl1]
   refine hK5 _ _ _ ?_; clear hK5
   refine AW.seq fun K10 hK10 => ?_
   refine AW.regionK 0 (fun _ => none) [2] [] ?_
   simp only [go_sem, reduceIte, reduceCtorEq, zA, zM, zE, zL, zD, zS, zP, zB, zI, zR, yac]
   repeat with_reducible refine cj ?_ ?_
   all_goals try first | omega
   refine hK10 _ _ _ ?_; clear hK10
   refine AW.ret ?_
   rw [← hQr]
   simp only [go_sem, reduceIte, reduceCtorEq, zA, zM, zE, zL, zD, zS, zP, zB, zI, zR, yac]
   have hj : j = l.length - 1 := by omega
   subst hj
   exact Wk.refl _
def heightT (n : Nat) (t : List (List Bool)) : Int := if n = 0 then 0 else mxU (levO n t) (n - 1) + 1
theorem yqd (es : List (List AV)) (h : Reads Tryd.prog 46 false [.agg [.rsl 2 es]] (.bool false)) : Reads Tryd.prog 13 false [.agg [.rsl 2 es]] (.tup [.int .i64 0, .int .i64 1]) := by
 have he := yov es h
 refine Reads.body (rs := [.tmp 2, .tmp 3]) Tryd.func13 rfl Tryd.ntmps13 rfl (by simp) ?_
 generalize hQr : retQ _ _ _ = Qr
 refine AW.seq fun K1 hK1 => ?_
 refine AW.regionK 0 (fun _ => none) [1] [1] ?_
 simp only [go_sem, reduceIte, reduceCtorEq, zA, zM, zE, zL, zD, zS, zP, zB, zI, zR]
 repeat with_reducible refine cj ?_ ?_
 all_goals try first | omega
 refine hK1 _ _ _ ?_; clear hK1
 refine AW.seq fun K2 hK2 => ?_
 refine AW.seq fun K3 hK3 => ?_
 refine AW.regionK 0 (fun ii => if ii = 1 then some (.reads false (.tup [.nilsl, .int .i64 1])) else none) [1, 5] [1] ?_
 simp only [go_sem, reduceIte, reduceCtorEq, zA, zM, zE, zL, zD, zS, zP, zB, zI, zR]
 repeat with_reducible refine cj ?_ ?_
 all_goals try first | (exact he) | omega | exact ent (by kernel_rfl)
 refine hK3 _ _ _ ?_; clear hK3
 refine AW.seq fun K4 hK4 => ?_
 refine AW.regionK 0 (fun _ => none) [1, 5, 14] [1] ?_
 simp only [go_sem, reduceIte, reduceCtorEq, zA, zM, zE, zL, zD, zS, zP, zB, zI, zR]
 repeat with_reducible refine cj ?_ ?_
 all_goals try first | omega
 refine hK4 _ _ _ ?_; clear hK4
 refine AW.cond rfl (by simp only [go_sem, reduceIte, reduceCtorEq, zA, zM, zE, zL, zD, zS, zP, zB, zI, zR]) ?_ ?_
 ·intro hb
  try simp only [hB, decide_eq_true_eq, decide_eq_false_iff_not] at hb
  refine AW.seq fun K5 hK5 => ?_
  refine AW.regionK 0 (fun _ => none) [2, 3] [] ?_
  simp only [go_sem, reduceIte, reduceCtorEq, zA, zM, zE, zL, zD, zS, zP, zB, zI, zR]
  repeat with_reducible refine cj ?_ ?_
  all_goals try first | omega
  refine hK5 _ _ _ ?_; clear hK5
  refine AW.ret ?_
  rw [← hQr]
  simp only [go_sem, reduceIte, reduceCtorEq, zA, zM, zE, zL, zD, zS, zP, zB, zI, zR]
  exact Wk.refl _
 ·intro hb
  try simp only [hB, decide_eq_true_eq, decide_eq_false_iff_not] at hb
  exfalso; simp at hb
theorem height_b (n : Nat) (t : List (List Bool)) (hs : Sq n t) (hn : n ≤ 512) (hp : poB n t = true) (hbig : ¬ (yas t n).length ≤ 2000) : Reads Tryd.prog 13 false [relB t] (.tup [.int .i64 0, .int .i64 9]) := by
 have he := yii n t hs hn hp
 rw [if_neg hbig] at he
 unfold relB at *
 refine Reads.body (rs := [.tmp 2, .tmp 3]) Tryd.func13 rfl Tryd.ntmps13 rfl (by simp) ?_
 generalize hQr : retQ _ _ _ = Qr
 refine AW.seq fun K1 hK1 => ?_
 refine AW.regionK 0 (fun _ => none) [1] [1] ?_
 simp only [go_sem, reduceIte, reduceCtorEq, zA, zM, zE, zL, zD, zS, zP, zB, zI, zR]
 repeat with_reducible refine cj ?_ ?_
 all_goals try first | omega
 refine hK1 _ _ _ ?_; clear hK1
 refine AW.seq fun K2 hK2 => ?_
 refine AW.seq fun K3 hK3 => ?_
 refine AW.regionK 0 (fun ii => if ii = 1 then some (.reads false (.tup [.nilsl, .int .i64 9])) else none) [1, 5] [1] ?_
 simp only [go_sem, reduceIte, reduceCtorEq, zA, zM, zE, zL, zD, zS, zP, zB, zI, zR]
 repeat with_reducible refine cj ?_ ?_
 all_goals try first | (exact he) | omega | exact ent (by kernel_rfl)
 refine hK3 _ _ _ ?_; clear hK3
 refine AW.seq fun K4 hK4 => ?_
 refine AW.regionK 0 (fun _ => none) [1, 5, 14] [1] ?_
 simp only [go_sem, reduceIte, reduceCtorEq, zA, zM, zE, zL, zD, zS, zP, zB, zI, zR]
 repeat with_reducible refine cj ?_ ?_
 all_goals try first | omega
 refine hK4 _ _ _ ?_; clear hK4
 refine AW.cond rfl (by simp only [go_sem, reduceIte, reduceCtorEq, zA, zM, zE, zL, zD, zS, zP, zB, zI, zR]) ?_ ?_
 ·intro hb
  try simp only [hB, decide_eq_true_eq, decide_eq_false_iff_not] at hb
  refine AW.seq fun K5 hK5 => ?_
  refine AW.regionK 0 (fun _ => none) [2, 3] [] ?_
  simp only [go_sem, reduceIte, reduceCtorEq, zA, zM, zE, zL, zD, zS, zP, zB, zI, zR]
  repeat with_reducible refine cj ?_ ?_
  all_goals try first | omega
  refine hK5 _ _ _ ?_; clear hK5
  refine AW.ret ?_
  rw [← hQr]
  simp only [go_sem, reduceIte, reduceCtorEq, zA, zM, zE, zL, zD, zS, zP, zB, zI, zR]
  exact Wk.refl _
 ·intro hb
  try simp only [hB, decide_eq_true_eq, decide_eq_false_iff_not] at hb
  exfalso; simp at hb
theorem yqe (n : Nat) (t : List (List Bool)) (hs : Sq n t) (hn : n ≤ 512) (hp : poB n t = true) (hl : (yas t n).length ≤ 2000) (hlv : (levO n t).length = n) (hb : ∀ j, mxU (levO n t) j ≤ 1000000 ∧ -1000000 ≤ mxU (levO n t) j) : Reads Tryd.prog 13 false [relB t] (.tup [.int .i64 (heightT n t), .int .i64 0]) := by
 have he := yii n t hs hn hp
 rw [if_pos hl] at he
 have hlev := levels_g n t hs hn hp
 have hmx := fun h => max_r (levO n t) (by omega) h
 have hbb := hb ((levO n t).length - 1)
 have hht : heightT n t = if n = 0 then 0 else mxU (levO n t) (n - 1) + 1 := rfl
 rw [hht]
 clear hb hht
 unfold relB at *
 generalize levO n t = L at *
 refine Reads.body (rs := [.tmp 2, .tmp 3]) Tryd.func13 rfl Tryd.ntmps13 rfl (by simp) ?_
 generalize hQr : retQ _ _ _ = Qr
 refine AW.seq fun K1 hK1 => ?_
 refine AW.regionK 0 (fun _ => none) [1] [1] ?_
 simp only [go_sem, reduceIte, reduceCtorEq, zA, zM, zE, zL, zD, zS, zP, zB, zI, zR, yac]
 repeat with_reducible refine cj ?_ ?_
 all_goals try first | omega
 refine hK1 _ _ _ ?_; clear hK1
 refine AW.seq fun K2 hK2 => ?_
 refine AW.seq fun K3 hK3 => ?_
 refine AW.regionK 0 (fun ii => if ii = 1 then some (.reads false (.tup [.rsl 2 ((yas t n).map ya8), .int .i64 0])) else none) [1, 5] [1] ?_
 simp only [go_sem, reduceIte, reduceCtorEq, zA, zM, zE, zL, zD, zS, zP, zB, zI, zR, yac]
 repeat with_reducible refine cj ?_ ?_
 all_goals try first | (exact he) | omega | exact ent (by kernel_rfl)
 refine hK3 _ _ _ ?_; clear hK3
 refine AW.seq fun K4 hK4 => ?_
 refine AW.regionK 0 (fun _ => none) [1, 5, 14] [1] ?_
 simp only [go_sem, reduceIte, reduceCtorEq, zA, zM, zE, zL, zD, zS, zP, zB, zI, zR, yac]
 repeat with_reducible refine cj ?_ ?_
 all_goals try first | omega
 refine hK4 _ _ _ ?_; clear hK4
 refine AW.cond rfl (by simp only [go_sem, reduceIte, reduceCtorEq, zA, zM, zE, zL, zD, zS, zP, zB, zI, zR]) ?_ ?_
 ·intro hb
  try simp only [hB, decide_eq_true_eq, decide_eq_false_iff_not] at hb
  exfalso; simp at hb
 ·intro hb
  try simp only [hB, decide_eq_true_eq, decide_eq_false_iff_not] at hb
  refine AW.skip ?_
  refine hK2 _ _ _ ?_; clear hK2
  refine AW.seq fun K5 hK5 => ?_
  refine AW.regionK 0 (fun ii => if ii = 1 then some (.reads false (.tup [.rsl 1 (ints L), .int .i64 ((0 : Nat) : Int)])) else none) [6, 7] [] ?_
  simp only [go_sem, reduceIte, reduceCtorEq, zA, zM, zE, zL, zD, zS, zP, zB, zI, zR, yac]
  repeat with_reducible refine cj ?_ ?_
  all_goals try first | (exact hlev) | omega | exact ent (by kernel_rfl)
  refine hK5 _ _ _ ?_; clear hK5
  refine AW.seq fun K6 hK6 => ?_
  refine AW.seq fun K7 hK7 => ?_
  refine AW.regionK 0 (fun _ => none) [6, 7, 27] [] ?_
  simp only [go_sem, reduceIte, reduceCtorEq, zA, zM, zE, zL, zD, zS, zP, zB, zI, zR, yac]
  repeat with_reducible refine cj ?_ ?_
  all_goals try first | omega | (intros; (repeat' apply And.intro) <;> first | assumption | omega | decide) | (intro hgd; exact absurd hgd (by decide)) | rfl | (simp only [go_sem, reduceIte, reduceCtorEq, zA, zM, zE, zL, zD, zS, zP, zB, zI, zR, yac]; done) | (intro _hgd; simp_all [go_sem]; done)
  refine hK7 _ _ _ ?_; clear hK7
  refine AW.cond rfl (by simp only [go_sem, reduceIte, reduceCtorEq, zA, zM, zE, zL, zD, zS, zP, zB, zI, zR]) ?_ ?_
  ·intro hb
   try simp only [hB, decide_eq_true_eq, decide_eq_false_iff_not] at hb
   have hn0 : n = 0 := by first | omega | (simp at hb; omega)
   refine AW.seq fun K8 hK8 => ?_
   refine AW.regionK 0 (fun _ => none) [2, 3] [] ?_
   simp only [go_sem, reduceIte, reduceCtorEq, zA, zM, zE, zL, zD, zS, zP, zB, zI, zR, yac]
   repeat with_reducible refine cj ?_ ?_
   all_goals try first | omega
   refine hK8 _ _ _ ?_; clear hK8
   refine AW.ret ?_
   rw [← hQr]
   simp only [go_sem, reduceIte, reduceCtorEq, zA, zM, zE, zL, zD, zS, zP, zB, zI, zR, yac]
   exact Wk.of_eq (by rw [if_pos hn0]; simp)
  ·intro hb
   try simp only [hB, decide_eq_true_eq, decide_eq_false_iff_not] at hb
   have hn0 : n ≠ 0 := by first | omega | (simp at hb; omega)
   have hmx := hmx (by omega)
   refine AW.skip ?_
   refine hK6 _ _ _ ?_; clear hK6
   refine AW.seq fun K9 hK9 => ?_
   refine AW.regionK 0 (fun ii => if ii = 1 then some (.reads false (.int .i64 (mxU L (L.length - 1)))) else none) [2, 3] [] ?_
   simp only [go_sem, reduceIte, reduceCtorEq, zA, zM, zE, zL, zD, zS, zP, zB, zI, zR, yac]
   repeat with_reducible refine cj ?_ ?_
   all_goals try first | (exact hmx) | omega | exact ent (by kernel_rfl)
   refine hK9 _ _ _ ?_; clear hK9
   refine AW.ret ?_
   rw [← hQr]
   simp only [go_sem, reduceIte, reduceCtorEq, zA, zM, zE, zL, zD, zS, zP, zB, zI, zR, yac]
   exact Wk.of_eq (by rw [if_neg hn0, hlv])
end Go.Proofs.W

namespace Go.Proofs.W
open Go.AM Go
set_option maxRecDepth 100000
set_option maxHeartbeats 2000000
end Go.Proofs.W

namespace Go.Proofs.W
open Go.AM Go
set_option maxRecDepth 100000
set_option maxHeartbeats 2000000
theorem wrap64 {i : Int} (h0 : 0 ≤ i) : IntKind.u64.wrap (i.tmod 64) = i.tmod 64 := by
 have : 0 ≤ i.tmod 64 ∧ i.tmod 64 < 64 := by rw [Int.tmod_eq_emod_of_nonneg h0]; omega
 simp [IntKind.wrap, IntKind.signed, IntKind.bits]; omega
theorem rhas_in (b : List Bool) (hb : b.length ≤ 512) (i : Int) (h0 : 0 ≤ i) (h1 : i < b.length) : Reads Tryd.prog 52 false [.agg [.int .i64 b.length, .rsl 1 (words (setW b b.length))], .int .i64 i] (.bool (b.getD i.toNat false)) := by
 have hd := ycq (i := i) (n := b.length) h0 (by omega)
 have hwl := ya1 b
 have hgw := ybn (l := setW b b.length) (i := (i.tdiv 64).toNat) (by omega)
 have hwr := wrap64 h0
 have hm := ypo h0 h1
 have hbl := yf1 hb
 unfold hasW at *
 generalize setW b b.length = W at *
 refine Reads.body (rs := [.tmp 4]) Tryd.func52 rfl Tryd.ntmps52 rfl (by simp) ?_
 generalize hQr : retQ _ _ _ = Qr
 refine AW.seq fun K1 hK1 => ?_
 refine AW.regionK 0 (fun _ => none) [1, 2] [2] ?_
 simp only [go_sem, reduceIte, reduceCtorEq, zA, zM, zE, zL, zD, zS, zP, zB, zI, zR]
 repeat with_reducible refine cj ?_ ?_
 all_goals try first | omega
 refine hK1 _ _ _ ?_; clear hK1
 refine AW.seq fun K2 hK2 => ?_
 refine AW.regionK 0 (fun _ => none) [4] [] ?_
 simp only [go_sem, reduceIte, reduceCtorEq, zA, zM, zE, zL, zD, zS, zP, zB, zI, zR, hgw, hwr]
 repeat with_reducible refine cj ?_ ?_
 all_goals try first | omega
 refine hK2 _ _ _ ?_; clear hK2
 refine AW.ret ?_
 rw [← hQr]
 simp only [go_sem, reduceIte, reduceCtorEq, zA, zM, zE, zL, zD, zS, zP, zB, zI, zR]
 exact Wk.of_eq (by rw [hm])
theorem fil_succ (p : Nat → Bool) (j : Nat) : ((List.range (j + 1)).filter p).length = ((List.range j).filter p).length + if p j = true then 1 else 0 := by
 rw [List.range_succ, List.filter_append, List.length_append]
 by_cases h : p j = true <;> simp [h]
theorem fil_le (p : Nat → Bool) (j : Nat) : ((List.range j).filter p).length ≤ j := by
 have := List.length_filter_le p (List.range j)
 simpa using this
theorem rsize_r (b : List Bool) (hb : b.length ≤ 512) : Reads Tryd.prog 24 false [.agg [.int .i64 b.length, .rsl 1 (words (setW b b.length))]] (.int .i64 ((memB b).length : Nat)) := by
 have hhr := rhas_in b hb
 have hmb : (memB b).length = ((List.range b.length).filter fun i => b.getD i false).length := rfl
 generalize setW b b.length = W at *
 refine Reads.body (rs := [.tmp 2]) Tryd.func24 rfl Tryd.ntmps24 rfl (by simp) ?_
 generalize hQr : retQ _ _ _ = Qr
 refine AW.seq fun K1 hK1 => ?_
 refine AW.regionK 0 (fun _ => none) [1] [1] ?_
 simp only [go_sem, reduceIte, reduceCtorEq, zA, zM, zE, zL, zD, zS, zP, zB, zI, zR]
 repeat with_reducible refine cj ?_ ?_
 all_goals try first | omega
 refine hK1 _ _ _ ?_; clear hK1
 refine AW.seq fun K2 hK2 => ?_
 refine AW.regionK 0 (fun _ => none) [1, 3] [1] ?_
 simp only [go_sem, reduceIte, reduceCtorEq, zA, zM, zE, zL, zD, zS, zP, zB, zI, zR]
 repeat with_reducible refine cj ?_ ?_
 all_goals try first | omega
 refine hK2 _ _ _ ?_; clear hK2
 refine AW.seq fun K3 hK3 => ?_
 refine AW.seq fun K4 hK4 => ?_
 refine AW.regionK 0 (fun _ => none) [1, 3, 4] [1] ?_
 simp only [go_sem, reduceIte, reduceCtorEq, zA, zM, zE, zL, zD, zS, zP, zB, zI, zR]
 repeat with_reducible refine cj ?_ ?_
 all_goals try first | omega
 refine hK4 _ _ _ ?_; clear hK4
 refine AW.block ?_
 refine AW.loopE (fun mm ee ss kk => ∃ (j g1 v1 : Nat), b.length - j = mm ∧ ee = [(1, .ptr ⟨1, g1, none⟩ 0 0), (3, .int .i64 (((List.range j).filter fun i => b.getD i false).length : Nat)), (4, .int .i64 (j : Nat))] ∧ ss = [(1, some ⟨g1, v1, 2, [[.int .i64 b.length, .rsl 1 (words W)]]⟩)] ∧ (j ≤ b.length)) ?_ ?_
 ·refine ⟨_, 0, ?_, ?_, rfl, ?henv, ?hstore, ?hst⟩
  case henv =>
   repeat' (first | rfl | refine yaa ?_ ?_ | refine yad ?_ ?_ ?_ ?_ | refine yah ?_ | refine yae ?_ | refine yai ?_ | refine yaj ?_ | refine yan ?_ ?_ ?_ | refine yak ?_ ?_ ?_ | refine yal ?_ | refine yaf ?_ ?_ | refine yab ?_ ?_)
   all_goals (first | (simp; done) | omega | (simp; omega))
  case hstore =>
   repeat' (first | rfl | refine yaa ?_ ?_ | refine yad ?_ ?_ ?_ ?_ | refine yah ?_ | refine yae ?_ | refine yai ?_ | refine yaj ?_ | refine yan ?_ ?_ ?_ | refine yak ?_ ?_ ?_ | refine yal ?_ | refine yaf ?_ ?_ | refine yab ?_ ?_)
   all_goals (first | (simp; done) | omega | (simp; omega))
  case hst =>
   first | trivial | omega | (simp; done) | (simp; omega)
 rintro mm ee ss kk ⟨j, g1, v1, rfl, rfl, rfl, hI⟩
 generalize hQl1 : ybb _ _ = Ql1
 refine AW.seq fun K5 hK5 => ?_
 refine AW.seq fun K6 hK6 => ?_
 refine AW.regionK 0 (fun _ => none) [1, 3, 4, 8] [1] ?_
 simp only [go_sem, reduceIte, reduceCtorEq, zA, zM, zE, zL, zD, zS, zP, zB, zI, zR]
 repeat with_reducible refine cj ?_ ?_
 all_goals try first | omega
 refine hK6 _ _ _ ?_; clear hK6
 refine AW.cond rfl (by simp only [go_sem, reduceIte, reduceCtorEq, zA, zM, zE, zL, zD, zS, zP, zB, zI, zR]) ?_ ?_
 ·intro hb
  try simp only [hB, decide_eq_true_eq, decide_eq_false_iff_not] at hb
  have hh := hhr (j : Int) (by omega) (by omega)
  rw [Int.toNat_natCast] at hh
  have hsu := fil_succ (fun i => b.getD i false) j
  have hfl := fil_le (fun i => b.getD i false) j
  refine AW.skip ?_
  refine hK5 _ _ _ ?_; clear hK5
  refine AW.seq fun K7 hK7 => ?_
  refine AW.block ?_
  refine AW.seq fun K8 hK8 => ?_
  refine AW.regionK 0 (fun ii => if ii = 2 then some (.reads false (.bool (b.getD j false))) else none) [1, 3, 4, 13] [1] ?_
  simp only [go_sem, reduceIte, reduceCtorEq, zA, zM, zE, zL, zD, zS, zP, zB, zI, zR]
  repeat with_reducible refine cj ?_ ?_
  all_goals try first | (exact hh) | omega | exact ent (by kernel_rfl)
  refine hK8 _ _ _ ?_; clear hK8
  refine AW.cond rfl (by simp only [go_sem, reduceIte, reduceCtorEq, zA, zM, zE, zL, zD, zS, zP, zB, zI, zR]) ?_ ?_
  ·intro hb
   try simp only [hB, decide_eq_true_eq, decide_eq_false_iff_not] at hb
   rw [if_pos hb] at hsu
   refine AW.regionK 0 (fun _ => none) [1, 3, 4] [1] ?_
   simp only [go_sem, reduceIte, reduceCtorEq, zA, zM, zE, zL, zD, zS, zP, zB, zI, zR]
   repeat with_reducible refine cj ?_ ?_
   all_goals try first | omega
   refine hK7 _ _ _ ?_; clear hK7
   refine AW.regionK 0 (fun _ => none) [1, 3, 4] [1] ?_
   simp only [go_sem, reduceIte, reduceCtorEq, zA, zM, zE, zL, zD, zS, zP, zB, zI, zR]
   repeat with_reducible refine cj ?_ ?_
   all_goals try first | omega
   rw [← hQl1]
   change Exists _
   refine ⟨_, ?hm, j + 1, ?_, ?_, rfl, ?henv, ?hstore, ?hst⟩
   case henv =>
    repeat' (first | rfl | refine yaa ?_ ?_ | refine yad ?_ ?_ ?_ ?_ | refine yah ?_ | refine yae ?_ | refine yai ?_ | refine yaj ?_ | refine yan ?_ ?_ ?_ | refine yak ?_ ?_ ?_ | refine yal ?_ | refine yaf ?_ ?_ | refine yab ?_ ?_)
    all_goals (first | (rw [hsu]; done) | (rw [hsu]; simp; done) | (simp; done) | omega)
   case hstore =>
    repeat' (first | rfl | refine yaa ?_ ?_ | refine yad ?_ ?_ ?_ ?_ | refine yah ?_ | refine yae ?_ | refine yai ?_ | refine yaj ?_ | refine yan ?_ ?_ ?_ | refine yak ?_ ?_ ?_ | refine yal ?_ | refine yaf ?_ ?_ | refine yab ?_ ?_)
    all_goals (first | (simp; done) | omega | (simp; omega))
   case hst =>
    first | trivial | omega | (simp; done) | (simp; omega)
   case hm => omega
  ·intro hb
   try simp only [hB, decide_eq_true_eq, decide_eq_false_iff_not] at hb
   rw [if_neg (by rw [hb]; simp)] at hsu
   refine AW.skip ?_
   refine hK7 _ _ _ ?_; clear hK7
   refine AW.regionK 0 (fun _ => none) [1, 3, 4] [1] ?_
   simp only [go_sem, reduceIte, reduceCtorEq, zA, zM, zE, zL, zD, zS, zP, zB, zI, zR]
   repeat with_reducible refine cj ?_ ?_
   all_goals try first | omega
   rw [← hQl1]
   change Exists _
   refine ⟨_, ?hm, j + 1, ?_, ?_, rfl, ?henv, ?hstore, ?hst⟩
   case henv =>
    repeat' (first | rfl | refine yaa ?_ ?_ | refine yad ?_ ?_ ?_ ?_ | refine yah ?_ | refine yae ?_ | refine yai ?_ | refine yaj ?_ | refine yan ?_ ?_ ?_ | refine yak ?_ ?_ ?_ | refine yal ?_ | refine yaf ?_ ?_ | refine yab ?_ ?_)
    all_goals (first | (rw [hsu]; done) | (rw [hsu]; simp; done) | (simp; done) | omega)
   case hstore =>
    repeat' (first | rfl | refine yaa ?_ ?_ | refine yad ?_ ?_ ?_ ?_ | refine yah ?_ | refine yae ?_ | refine yai ?_ | refine yaj ?_ | refine yan ?_ ?_ ?_ | refine yak ?_ ?_ ?_ | refine yal ?_ | refine yaf ?_ ?_ | refine yab ?_ ?_)
    all_goals (first | (simp; done) | omega | (simp; omega))
   case hst =>
    first | trivial | omega | (simp; done) | (simp; omega)
   case hm => omega
 ·intro hb
  try simp only [hB, decide_eq_true_eq, decide_eq_false_iff_not] at hb
  refine AW.keep [3] [] ?_
  try simp only [go_sem, reduceIte, reduceCtorEq, zA, zM, zE, zL, zD, zS, zP, zB, zI, zR]
  refine AW.exit ?_
  rw [← hQl1]
  refine hK3 _ _ _ ?_; clear hK3
  refine AW.seq fun K9 hK9 => ?_
  refine AW.regionK 0 (fun _ => none) [2] [] ?_
  simp only [go_sem, reduceIte, reduceCtorEq, zA, zM, zE, zL, zD, zS, zP, zB, zI, zR]
  repeat with_reducible refine cj ?_ ?_
  all_goals try first | omega
  refine hK9 _ _ _ ?_; clear hK9
  refine AW.ret ?_
  rw [← hQr]
  simp only [go_sem, reduceIte, reduceCtorEq, zA, zM, zE, zL, zD, zS, zP, zB, zI, zR]
  have hj : j = b.length := by omega
  subst hj
  exact Wk.of_eq (by rw [hmb])
def frI (t : List (List Bool)) (b : List Bool) (i k : Nat) : Bool := (List.range k).all fun j => !(b.getD i false && b.getD j false && atT t i j)
def frU (t : List (List Bool)) (b : List Bool) (n i : Nat) : Bool := (List.range i).all fun i => frI t b i n
theorem frU_anti {t : List (List Bool)} {b : List Bool} {n : Nat} (hb : b.length = n) : frU t b n n = yky t b := by
 have h : frU t b n n = true ↔ yky t b = true := by
  unfold frU frI yky you
  simp only [List.all_eq_true, List.mem_range]
  constructor
  ·intro h i hi j hj
   have h1 := memB_mem.1 hi
   have h2 := memB_mem.1 hj
   have := h i (by omega) j (by omega)
   rw [h1.2, h2.2] at this
   simpa using this
  ·intro h i hi j hj
   cases hbi : b.getD i false with
   | false => rfl
   | true =>
    cases hbj : b.getD j false with
    | false => rfl
    | true =>
     have := h i (memB_mem.2 ⟨by omega, hbi⟩) j (memB_mem.2 ⟨by omega, hbj⟩)
     simpa using this
 cases h1 : frU t b n n <;> cases h2 : yky t b <;> simp_all
end Go.Proofs.W

namespace Go.Proofs.W
open Go.AM Go
set_option maxRecDepth 100000
set_option maxHeartbeats 2000000
theorem rval_e (rs : List USet) (hl : yom rs) (hv : ydh rs = false) : Reads Tryd.prog 16 false [relV rs] (.bool false) := by
 have h := R.rrvalid_r rs hl.1 hl.2
 rw [hv] at h
 unfold relV at *
 refine Reads.body (rs := [.tmp 2]) Tryd.func16 rfl Tryd.ntmps16 rfl (by simp) ?_
 generalize hQr : retQ _ _ _ = Qr
 refine AW.seq fun K1 hK1 => ?_
 refine AW.regionK 0 (fun _ => none) [1] [1] ?_
 simp only [go_sem, reduceIte, reduceCtorEq, zA, zM, zE, zL, zD, zS, zP, zB, zI, zR]
 repeat with_reducible refine cj ?_ ?_
 all_goals try first | omega
 refine hK1 _ _ _ ?_; clear hK1
 refine AW.seq fun K2 hK2 => ?_
 refine AW.seq fun K3 hK3 => ?_
 refine AW.regionK 0 (fun ii => if ii = 1 then some (.reads false (.bool false)) else none) [1, 9] [1] ?_
 simp only [go_sem, reduceIte, reduceCtorEq, zA, zM, zE, zL, zD, zS, zP, zB, zI, zR]
 repeat with_reducible refine cj ?_ ?_
 all_goals try first | (exact h) | omega | exact ent (by kernel_rfl)
 refine hK3 _ _ _ ?_; clear hK3
 refine AW.cond rfl (by simp only [go_sem, reduceIte, reduceCtorEq, zA, zM, zE, zL, zD, zS, zP, zB, zI, zR]) ?_ ?_
 ·intro hb
  try simp only [hB, decide_eq_true_eq, decide_eq_false_iff_not] at hb
  refine AW.seq fun K4 hK4 => ?_
  refine AW.regionK 0 (fun _ => none) [2] [] ?_
  simp only [go_sem, reduceIte, reduceCtorEq, zA, zM, zE, zL, zD, zS, zP, zB, zI, zR]
  repeat with_reducible refine cj ?_ ?_
  all_goals try first | omega
  refine hK4 _ _ _ ?_; clear hK4
  refine AW.ret ?_
  rw [← hQr]
  simp only [go_sem, reduceIte, reduceCtorEq, zA, zM, zE, zL, zD, zS, zP, zB, zI, zR]
  exact Wk.refl _
 ·intro hb
  try simp only [hB, decide_eq_true_eq, decide_eq_false_iff_not] at hb
  exfalso; simp at hb
theorem ysz (n : Nat) (t : List (List Bool)) (hs : Sq n t) (hn : n ≤ 512) : Reads Tryd.prog 16 false [relB t] (.bool (poB n t)) := by
 have hlen := hs.len
 have hlm : (t.map SB).length = n := by simp [hlen]
 have hW : ∀ x ∈ t.map SB, x.W.length ≤ 9223372036854775807 := fun x hx => by
  obtain ⟨b, hb, rfl⟩ := List.mem_map.1 hx
  have := yf1 (b := b) (by rw [hs.row b hb]; exact hn)
  simp only [SB]; omega
 have h := R.rrvalid_r (t.map SB) (by omega) hW
 rw [ynp hs hn, ← yl0] at h
 have ht := (R.table_r n t hs hn).old
 have hrl := yef t
 have hpo := yki hs
 unfold relB at *
 refine Reads.body (rs := [.tmp 2]) Tryd.func16 rfl Tryd.ntmps16 rfl (by simp) ?_
 generalize hQr : retQ _ _ _ = Qr
 refine AW.seq fun K1 hK1 => ?_
 refine AW.regionK 0 (fun _ => none) [1] [1] ?_
 simp only [go_sem, reduceIte, reduceCtorEq, zA, zM, zE, zL, zD, zS, zP, zB, zI, zR, hrl, hlen, yag]
 repeat with_reducible refine cj ?_ ?_
 all_goals try first | omega
 refine hK1 _ _ _ ?_; clear hK1
 refine AW.seq fun K2 hK2 => ?_
 refine AW.seq fun K3 hK3 => ?_
 refine AW.regionK 0 (fun ii => if ii = 1 then some (.reads false (.bool true)) else none) [1, 9] [1] ?_
 simp only [go_sem, reduceIte, reduceCtorEq, zA, zM, zE, zL, zD, zS, zP, zB, zI, zR, hrl, hlen, yag]
 repeat with_reducible refine cj ?_ ?_
 all_goals try first | (exact h) | omega | exact ent (by kernel_rfl)
 refine hK3 _ _ _ ?_; clear hK3
 refine AW.cond rfl (by simp only [go_sem, reduceIte, reduceCtorEq, zA, zM, zE, zL, zD, zS, zP, zB, zI, zR]) ?_ ?_
 ·intro hb
  try simp only [hB, decide_eq_true_eq, decide_eq_false_iff_not] at hb
  exfalso; simp at hb
 ·intro hb
  try simp only [hB, decide_eq_true_eq, decide_eq_false_iff_not] at hb
  refine AW.skip ?_
  refine hK2 _ _ _ ?_; clear hK2
  refine AW.seq fun K4 hK4 => ?_
  refine AW.regionK 0 (fun ii => if ii = 1 then some (.reads false (.rsl 1 (ydf t))) else none) [3] [] ?_
  simp only [go_sem, reduceIte, reduceCtorEq, zA, zM, zE, zL, zD, zS, zP, zB, zI, zR, hrl, hlen, yag]
  repeat with_reducible refine cj ?_ ?_
  all_goals try first | (exact ht) | omega | exact ent (by kernel_rfl)
  refine hK4 _ _ _ ?_; clear hK4
  refine AW.seq fun K5 hK5 => ?_
  refine AW.seq fun K6 hK6 => ?_
  refine AW.regionK 0 (fun _ => none) [3, 4] [] ?_
  simp only [go_sem, reduceIte, reduceCtorEq, zA, zM, zE, zL, zD, zS, zP, zB, zI, zR, hrl, hlen, yag]
  repeat with_reducible refine cj ?_ ?_
  all_goals try first | omega
  refine hK6 _ _ _ ?_; clear hK6
  refine AW.block ?_
  refine AW.loopE (fun mm ee ss kk => ∃ (i : Nat), n - i = mm ∧ ee = [(3, .rsl 1 (ydf t)), (4, .int .i64 (i : Nat))] ∧ ss = [] ∧ (i ≤ n ∧ ∀ a, a < i → atT t a a = false ∧ ∀ b c, b < n → c < n → atT t a b = true → atT t b c = true → atT t a c = true)) ?_ ?_
  ·refine ⟨_, 0, rfl, ?henv, ?hstore, ?hst⟩
   case henv =>
    repeat' (first | rfl | refine yaa ?_ ?_ | refine yad ?_ ?_ ?_ ?_ | refine yah ?_ | refine yae ?_ | refine yai ?_ | refine yaj ?_ | refine yan ?_ ?_ ?_ | refine yak ?_ ?_ ?_ | refine yal ?_ | refine yaf ?_ ?_ | refine yab ?_ ?_)
    all_goals (first | (simp; done) | omega | (simp; omega))
   case hstore =>
    repeat' (first | rfl | refine yaa ?_ ?_ | refine yad ?_ ?_ ?_ ?_ | refine yah ?_ | refine yae ?_ | refine yai ?_ | refine yaj ?_ | refine yan ?_ ?_ ?_ | refine yak ?_ ?_ ?_ | refine yal ?_ | refine yaf ?_ ?_ | refine yab ?_ ?_)
    all_goals (first | (simp; done) | omega | (simp; omega))
   case hst =>
    exact ⟨by omega, fun a ha => by omega⟩
  rintro mm ee ss kk ⟨i, rfl, rfl, rfl, hI⟩
  generalize hQl1 : ybb _ _ = Ql1
  obtain ⟨hi, hal⟩ := hI
  refine AW.seq fun K7 hK7 => ?_
  refine AW.seq fun K8 hK8 => ?_
  refine AW.regionK 0 (fun _ => none) [3, 4, 15] [] ?_
  simp only [go_sem, reduceIte, reduceCtorEq, zA, zM, zE, zL, zD, zS, zP, zB, zI, zR, hrl, hlen, yag]
  repeat with_reducible refine cj ?_ ?_
  all_goals try first | omega
  refine hK8 _ _ _ ?_; clear hK8
  refine AW.cond rfl (by simp only [go_sem, reduceIte, reduceCtorEq, zA, zM, zE, zL, zD, zS, zP, zB, zI, zR]) ?_ ?_
  ·intro hb
   try simp only [hB, decide_eq_true_eq, decide_eq_false_iff_not] at hb
   have hgi := yfm (t := t) (i := i) (by omega)
   have hri := hs.rowLen (i := i) (by omega)
   have hgii := ybx (l := rowT t i) (i := i) (by omega)
   have hat : atT t i i = (rowT t i).getD i false := rfl
   rw [← hat] at hgii
   refine AW.skip ?_
   refine hK7 _ _ _ ?_; clear hK7
   refine AW.seq fun K9 hK9 => ?_
   refine AW.block ?_
   refine AW.seq fun K10 hK10 => ?_
   refine AW.seq fun K11 hK11 => ?_
   refine AW.regionK 0 (fun _ => none) [3, 4, 24] [] ?_
   simp only [go_sem, reduceIte, reduceCtorEq, zA, zM, zE, zL, zD, zS, zP, zB, zI, zR, hrl, hlen, yag, hgi, hri, hgii]
   repeat with_reducible refine cj ?_ ?_
   all_goals try first | omega
   refine hK11 _ _ _ ?_; clear hK11
   refine AW.cond rfl (by simp only [go_sem, reduceIte, reduceCtorEq, zA, zM, zE, zL, zD, zS, zP, zB, zI, zR]) ?_ ?_
   ·intro hb
    try simp only [hB, decide_eq_true_eq, decide_eq_false_iff_not] at hb
    refine AW.seq fun K12 hK12 => ?_
    refine AW.regionK 0 (fun _ => none) [2] [] ?_
    simp only [go_sem, reduceIte, reduceCtorEq, zA, zM, zE, zL, zD, zS, zP, zB, zI, zR, hrl, hlen, yag]
    repeat with_reducible refine cj ?_ ?_
    all_goals try first | omega
    refine hK12 _ _ _ ?_; clear hK12
    refine AW.ret ?_
    rw [← hQl1]
    rw [← hQr]
    simp only [go_sem, reduceIte, reduceCtorEq, zA, zM, zE, zL, zD, zS, zP, zB, zI, zR, hrl, hlen, yag]
    have hf : poB n t = false := by
     cases e : poB n t with
     | false => rfl
     | true => have := (hpo.1 e).irr i (by omega); rw [hb] at this; cases this
    exact Wk.of_eq (by rw [hf])
   ·intro hb
    try simp only [hB, decide_eq_true_eq, decide_eq_false_iff_not] at hb
    have hir : atT t i i = false := by simpa using hb
    clear hb
    refine AW.skip ?_
    refine hK10 _ _ _ ?_; clear hK10
    refine AW.seq fun K13 hK13 => ?_
    refine AW.regionK 0 (fun _ => none) [3, 4, 5] [] ?_
    simp only [go_sem, reduceIte, reduceCtorEq, zA, zM, zE, zL, zD, zS, zP, zB, zI, zR, hrl, hlen, yag]
    repeat with_reducible refine cj ?_ ?_
    all_goals try first | omega
    refine hK13 _ _ _ ?_; clear hK13
    refine AW.block ?_
    refine AW.loopE (fun mm ee ss kk => ∃ (j : Nat), n - j = mm ∧ ee = [(3, .rsl 1 (ydf t)), (4, .int .i64 (i : Nat)), (5, .int .i64 (j : Nat))] ∧ ss = [] ∧ (j ≤ n ∧ ∀ b c, b < j → c < n → atT t i b = true → atT t b c = true → atT t i c = true)) ?_ ?_
    ·refine ⟨_, 0, rfl, ?henv, ?hstore, ?hst⟩
     case henv =>
      repeat' (first | rfl | refine yaa ?_ ?_ | refine yad ?_ ?_ ?_ ?_ | refine yah ?_ | refine yae ?_ | refine yai ?_ | refine yaj ?_ | refine yan ?_ ?_ ?_ | refine yak ?_ ?_ ?_ | refine yal ?_ | refine yaf ?_ ?_ | refine yab ?_ ?_)
      all_goals (first | (simp; done) | omega | (simp; omega))
     case hstore =>
      repeat' (first | rfl | refine yaa ?_ ?_ | refine yad ?_ ?_ ?_ ?_ | refine yah ?_ | refine yae ?_ | refine yai ?_ | refine yaj ?_ | refine yan ?_ ?_ ?_ | refine yak ?_ ?_ ?_ | refine yal ?_ | refine yaf ?_ ?_ | refine yab ?_ ?_)
      all_goals (first | (simp; done) | omega | (simp; omega))
     case hst =>
      exact ⟨by omega, fun b c hb => by omega⟩
    rintro mm ee ss kk ⟨j, rfl, rfl, rfl, hI⟩
    generalize hQl2 : ybb _ _ = Ql2
    obtain ⟨hj, hal2⟩ := hI
    refine AW.seq fun K14 hK14 => ?_
    refine AW.seq fun K15 hK15 => ?_
    refine AW.regionK 0 (fun _ => none) [3, 4, 5, 28] [] ?_
    simp only [go_sem, reduceIte, reduceCtorEq, zA, zM, zE, zL, zD, zS, zP, zB, zI, zR, hrl, hlen, yag]
    repeat with_reducible refine cj ?_ ?_
    all_goals try first | omega
    refine hK15 _ _ _ ?_; clear hK15
    refine AW.cond rfl (by simp only [go_sem, reduceIte, reduceCtorEq, zA, zM, zE, zL, zD, zS, zP, zB, zI, zR]) ?_ ?_
    ·intro hb
     try simp only [hB, decide_eq_true_eq, decide_eq_false_iff_not] at hb
     have hgj := yfm (t := t) (i := j) (by omega)
     have hrj := hs.rowLen (i := j) (by omega)
     have hgij := ybx (l := rowT t i) (i := j) (by omega)
     have hatij : atT t i j = (rowT t i).getD j false := rfl
     rw [← hatij] at hgij
     refine AW.skip ?_
     refine hK14 _ _ _ ?_; clear hK14
     refine AW.seq fun K16 hK16 => ?_
     refine AW.block ?_
     refine AW.seq fun K17 hK17 => ?_
     refine AW.regionK 0 (fun _ => none) [3, 4, 5, 6] [] ?_
     simp only [go_sem, reduceIte, reduceCtorEq, zA, zM, zE, zL, zD, zS, zP, zB, zI, zR, hrl, hlen, yag]
     repeat with_reducible refine cj ?_ ?_
     all_goals try first | omega
     refine hK17 _ _ _ ?_; clear hK17
     refine AW.block ?_
     refine AW.loopE (fun mm ee ss kk => ∃ (k : Nat), n - k = mm ∧ ee = [(3, .rsl 1 (ydf t)), (4, .int .i64 (i : Nat)), (5, .int .i64 (j : Nat)), (6, .int .i64 (k : Nat))] ∧ ss = [] ∧ (k ≤ n ∧ ∀ c, c < k → atT t i j = true → atT t j c = true → atT t i c = true)) ?_ ?_
     ·refine ⟨_, 0, rfl, ?henv, ?hstore, ?hst⟩
      case henv =>
       repeat' (first | rfl | refine yaa ?_ ?_ | refine yad ?_ ?_ ?_ ?_ | refine yah ?_ | refine yae ?_ | refine yai ?_ | refine yaj ?_ | refine yan ?_ ?_ ?_ | refine yak ?_ ?_ ?_ | refine yal ?_ | refine yaf ?_ ?_ | refine yab ?_ ?_)
       all_goals (first | (simp; done) | omega | (simp; omega))
      case hstore =>
       repeat' (first | rfl | refine yaa ?_ ?_ | refine yad ?_ ?_ ?_ ?_ | refine yah ?_ | refine yae ?_ | refine yai ?_ | refine yaj ?_ | refine yan ?_ ?_ ?_ | refine yak ?_ ?_ ?_ | refine yal ?_ | refine yaf ?_ ?_ | refine yab ?_ ?_)
       all_goals (first | (simp; done) | omega | (simp; omega))
      case hst =>
       exact ⟨by omega, fun c hc => by omega⟩
     rintro mm ee ss kk ⟨k, rfl, rfl, rfl, hI⟩
     generalize hQl3 : ybb _ _ = Ql3
     obtain ⟨hk, hal3⟩ := hI
     refine AW.seq fun K18 hK18 => ?_
     refine AW.seq fun K19 hK19 => ?_
     refine AW.regionK 0 (fun _ => none) [3, 4, 5, 6, 34] [] ?_
     simp only [go_sem, reduceIte, reduceCtorEq, zA, zM, zE, zL, zD, zS, zP, zB, zI, zR, hrl, hlen, yag]
     repeat with_reducible refine cj ?_ ?_
     all_goals try first | omega
     refine hK19 _ _ _ ?_; clear hK19
     refine AW.cond rfl (by simp only [go_sem, reduceIte, reduceCtorEq, zA, zM, zE, zL, zD, zS, zP, zB, zI, zR]) ?_ ?_
     ·intro hb
      try simp only [hB, decide_eq_true_eq, decide_eq_false_iff_not] at hb
      have hgjk := ybx (l := rowT t j) (i := k) (by omega)
      have hgik := ybx (l := rowT t i) (i := k) (by omega)
      have hatjk : atT t j k = (rowT t j).getD k false := rfl
      have hatik : atT t i k = (rowT t i).getD k false := rfl
      rw [← hatjk] at hgjk
      rw [← hatik] at hgik
      refine AW.skip ?_
      refine hK18 _ _ _ ?_; clear hK18
      refine AW.seq fun K20 hK20 => ?_
      refine AW.block ?_
      refine AW.seq fun K21 hK21 => ?_
      refine AW.regionK 0 (fun _ => none) [3, 4, 5, 6, 62] [] ?_
      simp only [go_sem, reduceIte, reduceCtorEq, zA, zM, zE, zL, zD, zS, zP, zB, zI, zR, hrl, hlen, yag, hgi, hri, hgj, hrj, hgij, hgjk, hgik]
      repeat with_reducible refine cj ?_ ?_
      all_goals try first | ((intro hh; (repeat' apply And.intro) <;> first | exact hh | omega)) | (intros; (repeat' apply And.intro) <;> first | assumption | ((intro hh; (repeat' apply And.intro) <;> first | exact hh | omega))) | omega | (intro hgd; exact absurd hgd (by decide)) | rfl | (simp only [go_sem, reduceIte, reduceCtorEq, zA, zM, zE, zL, zD, zS, zP, zB, zI, zR, hrl, hlen, yag, hgi, hri, hgj, hrj, hgij, hgjk, hgik]; done) | (intro _hgd; simp_all [go_sem]; done)
      refine hK21 _ _ _ ?_; clear hK21
      refine AW.cond rfl (by simp only [go_sem, reduceIte, reduceCtorEq, zA, zM, zE, zL, zD, zS, zP, zB, zI, zR]) ?_ ?_
      ·intro hb
       try simp only [hB, decide_eq_true_eq, decide_eq_false_iff_not] at hb
       refine AW.seq fun K22 hK22 => ?_
       refine AW.regionK 0 (fun _ => none) [2] [] ?_
       simp only [go_sem, reduceIte, reduceCtorEq, zA, zM, zE, zL, zD, zS, zP, zB, zI, zR, hrl, hlen, yag]
       repeat with_reducible refine cj ?_ ?_
       all_goals try first | omega
       refine hK22 _ _ _ ?_; clear hK22
       refine AW.ret ?_
       rw [← hQl3]
       rw [← hQl2]
       rw [← hQl1]
       rw [← hQr]
       simp only [go_sem, reduceIte, reduceCtorEq, zA, zM, zE, zL, zD, zS, zP, zB, zI, zR, hrl, hlen, yag]
       have hf : poB n t = false := by
        cases e : poB n t with
        | false => rfl
        | true => have := (hpo.1 e).trans i j k (by omega) (by omega) (by omega) hb.1.1 hb.1.2; rw [hb.2] at this; cases this
       exact Wk.of_eq (by rw [hf])
      ·intro hb
       try simp only [hB, decide_eq_true_eq, decide_eq_false_iff_not] at hb
       refine AW.skip ?_
       refine hK20 _ _ _ ?_; clear hK20
       refine AW.regionK 0 (fun _ => none) [3, 4, 5, 6] [] ?_
       simp only [go_sem, reduceIte, reduceCtorEq, zA, zM, zE, zL, zD, zS, zP, zB, zI, zR, hrl, hlen, yag]
       repeat with_reducible refine cj ?_ ?_
       all_goals try first | omega
       rw [← hQl3]
       change Exists _
       refine ⟨_, ?hm, k + 1, rfl, ?henv, ?hstore, ?hst⟩
       case henv =>
        repeat' (first | rfl | refine yaa ?_ ?_ | refine yad ?_ ?_ ?_ ?_ | refine yah ?_ | refine yae ?_ | refine yai ?_ | refine yaj ?_ | refine yan ?_ ?_ ?_ | refine yak ?_ ?_ ?_ | refine yal ?_ | refine yaf ?_ ?_ | refine yab ?_ ?_)
        all_goals (first | (simp; done) | omega | (simp; omega))
       case hstore =>
        repeat' (first | rfl | refine yaa ?_ ?_ | refine yad ?_ ?_ ?_ ?_ | refine yah ?_ | refine yae ?_ | refine yai ?_ | refine yaj ?_ | refine yan ?_ ?_ ?_ | refine yak ?_ ?_ ?_ | refine yal ?_ | refine yaf ?_ ?_ | refine yab ?_ ?_)
        all_goals (first | (simp; done) | omega | (simp; omega))
       case hst =>
        refine ⟨by omega, fun c hc h1 h2 => ?_⟩
        by_cases e : c = k
        ·subst e
         revert hb; rw [h1, h2]; cases atT t i c <;> simp
        ·exact hal3 c (by omega) h1 h2
       case hm => omega
     ·intro hb
      try simp only [hB, decide_eq_true_eq, decide_eq_false_iff_not] at hb
      have hk2 : k = n := by omega
      refine AW.keep [3, 4, 5] [] ?_
      try simp only [go_sem, reduceIte, reduceCtorEq, zA, zM, zE, zL, zD, zS, zP, zB, zI, zR]
      refine AW.exit ?_
      rw [← hQl3]
      refine hK16 _ _ _ ?_; clear hK16
      refine AW.regionK 0 (fun _ => none) [3, 4, 5] [] ?_
      simp only [go_sem, reduceIte, reduceCtorEq, zA, zM, zE, zL, zD, zS, zP, zB, zI, zR, hrl, hlen, yag]
      repeat with_reducible refine cj ?_ ?_
      all_goals try first | omega
      rw [← hQl2]
      change Exists _
      refine ⟨_, ?hm, j + 1, rfl, ?henv, ?hstore, ?hst⟩
      case henv =>
       repeat' (first | rfl | refine yaa ?_ ?_ | refine yad ?_ ?_ ?_ ?_ | refine yah ?_ | refine yae ?_ | refine yai ?_ | refine yaj ?_ | refine yan ?_ ?_ ?_ | refine yak ?_ ?_ ?_ | refine yal ?_ | refine yaf ?_ ?_ | refine yab ?_ ?_)
       all_goals (first | (simp; done) | omega | (simp; omega))
      case hstore =>
       repeat' (first | rfl | refine yaa ?_ ?_ | refine yad ?_ ?_ ?_ ?_ | refine yah ?_ | refine yae ?_ | refine yai ?_ | refine yaj ?_ | refine yan ?_ ?_ ?_ | refine yak ?_ ?_ ?_ | refine yal ?_ | refine yaf ?_ ?_ | refine yab ?_ ?_)
       all_goals (first | (simp; done) | omega | (simp; omega))
      case hst =>
       refine ⟨by omega, fun b c hb2 hc h1 h2 => ?_⟩
       by_cases e : b = j
       ·subst e; exact hal3 c (by omega) h1 h2
       ·exact hal2 b c (by omega) hc h1 h2
      case hm => omega
    ·intro hb
     try simp only [hB, decide_eq_true_eq, decide_eq_false_iff_not] at hb
     have hj2 : j = n := by omega
     refine AW.keep [3, 4] [] ?_
     try simp only [go_sem, reduceIte, reduceCtorEq, zA, zM, zE, zL, zD, zS, zP, zB, zI, zR]
     refine AW.exit ?_
     rw [← hQl2]
     refine hK9 _ _ _ ?_; clear hK9
     refine AW.regionK 0 (fun _ => none) [3, 4] [] ?_
     simp only [go_sem, reduceIte, reduceCtorEq, zA, zM, zE, zL, zD, zS, zP, zB, zI, zR, hrl, hlen, yag]
     repeat with_reducible refine cj ?_ ?_
     all_goals try first | omega
     rw [← hQl1]
     change Exists _
     refine ⟨_, ?hm, i + 1, rfl, ?henv, ?hstore, ?hst⟩
     case henv =>
      repeat' (first | rfl | refine yaa ?_ ?_ | refine yad ?_ ?_ ?_ ?_ | refine yah ?_ | refine yae ?_ | refine yai ?_ | refine yaj ?_ | refine yan ?_ ?_ ?_ | refine yak ?_ ?_ ?_ | refine yal ?_ | refine yaf ?_ ?_ | refine yab ?_ ?_)
      all_goals (first | (simp; done) | omega | (simp; omega))
     case hstore =>
      repeat' (first | rfl | refine yaa ?_ ?_ | refine yad ?_ ?_ ?_ ?_ | refine yah ?_ | refine yae ?_ | refine yai ?_ | refine yaj ?_ | refine yan ?_ ?_ ?_ | refine yak ?_ ?_ ?_ | refine yal ?_ | refine yaf ?_ ?_ | refine yab ?_ ?_)
      all_goals (first | (simp; done) | omega | (simp; omega))
     case hst =>
      refine ⟨by omega, fun a ha => ?_⟩
      by_cases e : a = i
      ·subst e; exact ⟨hir, fun b c hb2 hc => hal2 b c (by omega) hc⟩
      ·exact hal a (by omega)
     case hm => omega
  ·intro hb
   try simp only [hB, decide_eq_true_eq, decide_eq_false_iff_not] at hb
   refine AW.keep [] [] ?_
   try simp only [go_sem, reduceIte, reduceCtorEq, zA, zM, zE, zL, zD, zS, zP, zB, zI, zR]
   refine AW.exit ?_
   rw [← hQl1]
   refine hK5 _ _ _ ?_; clear hK5
   refine AW.seq fun K23 hK23 => ?_
   refine AW.regionK 0 (fun _ => none) [2] [] ?_
   simp only [go_sem, reduceIte, reduceCtorEq, zA, zM, zE, zL, zD, zS, zP, zB, zI, zR, hrl, hlen, yag]
   repeat with_reducible refine cj ?_ ?_
   all_goals try first | omega
   refine hK23 _ _ _ ?_; clear hK23
   refine AW.ret ?_
   rw [← hQr]
   simp only [go_sem, reduceIte, reduceCtorEq, zA, zM, zE, zL, zD, zS, zP, zB, zI, zR, hrl, hlen, yag]
   have hi2 : i = n := by omega
   have hp : IsPo n t := ⟨fun a ha => (hal a (by omega)).1, fun a b c ha hb2 hc => (hal a (by omega)).2 b c hb2 hc⟩
   exact Wk.of_eq (by rw [hpo.2 hp])
end Go.Proofs.W

namespace Go.Proofs.W
open Go.AM Go
set_option maxRecDepth 100000
set_option maxHeartbeats 2000000
def ykp (x : USet) : Bool := decide ((20 : Int) < x.W.length)
theorem great1_r (x : USet) (hx : x.W.length ≤ 9223372036854775807) : Reads Tryd.prog 35 false [.agg (rowV x)] (.bool (ykp x)) := by
 unfold rowV
 refine Reads.body (rs := [.tmp 2]) Tryd.func35 rfl Tryd.ntmps35 rfl (by simp) ?_
 generalize hQr : retQ _ _ _ = Qr
 refine AW.seq fun K1 hK1 => ?_
 refine AW.regionK 0 (fun _ => none) [1] [1] ?_
 simp only [go_sem, reduceIte, reduceCtorEq, zA, zM, zE, zL, zD, zS, zP, zB, zI, zR]
 repeat with_reducible refine cj ?_ ?_
 all_goals try first | omega
 refine hK1 _ _ _ ?_; clear hK1
 refine AW.seq fun K2 hK2 => ?_
 refine AW.regionK 0 (fun _ => none) [2] [] ?_
 simp only [go_sem, reduceIte, reduceCtorEq, zA, zM, zE, zL, zD, zS, zP, zB, zI, zR]
 repeat with_reducible refine cj ?_ ?_
 all_goals try first | omega
 refine hK2 _ _ _ ?_; clear hK2
 refine AW.ret ?_
 rw [← hQr]
 simp only [go_sem, reduceIte, reduceCtorEq, zA, zM, zE, zL, zD, zS, zP, zB, zI, zR]
 exact Wk.of_eq (by unfold ykp; simp)
theorem ixgreat_r (rs : List USet) (hl : yom rs) : Reads Tryd.prog 64 false [.rsl 2 (rs.map rowV), .fn 35 []] (.int .i64 (ixf ykp rs)) := by
 have hbp := fun x hxm => great1_r x (hl.2 x hxm)
 have hl1 := hl.1
 refine Reads.body (rs := [.tmp 4]) Tryd.func64 rfl Tryd.ntmps64 rfl (by simp) ?_
 generalize hQr : retQ _ _ _ = Qr
 refine AW.seq fun K1 hK1 => ?_
 refine AW.regionK 0 (fun _ => none) [0, 1] [] ?_
 simp only [go_sem, reduceIte, reduceCtorEq, zA, zM, zE, zL, zD, zS, zP, zB, zI, zR]
 repeat with_reducible refine cj ?_ ?_
 all_goals try first | omega
 refine hK1 _ _ _ ?_; clear hK1
 refine AW.seq fun K2 hK2 => ?_
 refine AW.seq fun K3 hK3 => ?_
 refine AW.regionK 0 (fun _ => none) [0, 1, 7, 8] [] ?_
 simp only [go_sem, reduceIte, reduceCtorEq, zA, zM, zE, zL, zD, zS, zP, zB, zI, zR]
 repeat with_reducible refine cj ?_ ?_
 all_goals try first | omega
 refine hK3 _ _ _ ?_; clear hK3
 refine AW.block ?_
 refine AW.loopE (fun mm ee ss kk => ∃ (j : Nat), rs.length - j = mm ∧ ee = [(0, .rsl 2 (rs.map rowV)), (1, .fn 35 []), (7, .int .i64 rs.length), (8, .int .i64 (j : Nat))] ∧ ss = [] ∧ (j ≤ rs.length ∧ (rs.take j).any ykp = false)) ?_ ?_
 ·refine ⟨_, 0, rfl, ?henv, ?hstore, ?hst⟩
  case henv =>
   repeat' (first | rfl | refine yaa ?_ ?_ | refine yad ?_ ?_ ?_ ?_ | refine yah ?_ | refine yae ?_ | refine yai ?_ | refine yaj ?_ | refine yan ?_ ?_ ?_ | refine yak ?_ ?_ ?_ | refine yal ?_ | refine yaf ?_ ?_ | refine yab ?_ ?_)
   all_goals (first | (simp; done) | omega | (simp; omega))
  case hstore =>
   repeat' (first | rfl | refine yaa ?_ ?_ | refine yad ?_ ?_ ?_ ?_ | refine yah ?_ | refine yae ?_ | refine yai ?_ | refine yaj ?_ | refine yan ?_ ?_ ?_ | refine yak ?_ ?_ ?_ | refine yal ?_ | refine yaf ?_ ?_ | refine yab ?_ ?_)
   all_goals (first | (simp; done) | omega | (simp; omega))
  case hst =>
   first | trivial | omega | (simp; done) | (simp; omega)
 rintro mm ee ss kk ⟨j, rfl, rfl, rfl, hI⟩
 generalize hQl1 : ybb _ _ = Ql1
 obtain ⟨hj, hall⟩ := hI
 refine AW.seq fun K4 hK4 => ?_
 refine AW.regionK 0 (fun _ => none) [0, 1, 7, 8, 9] [] ?_
 simp only [go_sem, reduceIte, reduceCtorEq, zA, zM, zE, zL, zD, zS, zP, zB, zI, zR]
 repeat with_reducible refine cj ?_ ?_
 all_goals try first | omega
 refine hK4 _ _ _ ?_; clear hK4
 refine AW.seq fun K5 hK5 => ?_
 refine AW.cond rfl (by simp only [go_sem, reduceIte, reduceCtorEq, zA, zM, zE, zL, zD, zS, zP, zB, zI, zR]) ?_ ?_
 ·intro hb
  try simp only [hB, decide_eq_true_eq, decide_eq_false_iff_not] at hb
  obtain ⟨x, hx⟩ := getI (l := rs) (j := j) (by omega)
  have hgx := getV (f := rowV) hx
  have hats := ycr (p := ykp) hx
  have hbx := hbp x (List.mem_of_getElem? hx)
  refine AW.skip ?_
  refine hK5 _ _ _ ?_; clear hK5
  refine AW.seq fun K6 hK6 => ?_
  refine AW.block ?_
  refine AW.seq fun K7 hK7 => ?_
  refine AW.regionK 0 (fun _ => none) [0, 1, 5, 7, 8] [] ?_
  simp only [go_sem, reduceIte, reduceCtorEq, zA, zM, zE, zL, zD, zS, zP, zB, zI, zR]
  repeat with_reducible refine cj ?_ ?_
  all_goals try first | omega
  refine hK7 _ _ _ ?_; clear hK7
  refine AW.seq fun K8 hK8 => ?_
  refine AW.regionK 0 (fun ii => if ii = 5 then some (.reads false (.bool (ykp x))) else none) [0, 1, 5, 7, 8, 16] [] ?_
  simp only [go_sem, reduceIte, reduceCtorEq, zA, zM, zE, zL, zD, zS, zP, zB, zI, zR, hgx, rowV]
  repeat with_reducible refine cj ?_ ?_
  all_goals try first | (exact hbx) | omega | exact ent (by kernel_rfl)
  refine hK8 _ _ _ ?_; clear hK8
  refine AW.cond rfl (by simp only [go_sem, reduceIte, reduceCtorEq, zA, zM, zE, zL, zD, zS, zP, zB, zI, zR]) ?_ ?_
  ·intro hb
   try simp only [hB, decide_eq_true_eq, decide_eq_false_iff_not] at hb
   refine AW.seq fun K9 hK9 => ?_
   refine AW.regionK 0 (fun _ => none) [4] [] ?_
   simp only [go_sem, reduceIte, reduceCtorEq, zA, zM, zE, zL, zD, zS, zP, zB, zI, zR]
   repeat with_reducible refine cj ?_ ?_
   all_goals try first | omega
   refine hK9 _ _ _ ?_; clear hK9
   refine AW.ret ?_
   rw [← hQl1]
   rw [← hQr]
   simp only [go_sem, reduceIte, reduceCtorEq, zA, zM, zE, zL, zD, zS, zP, zB, zI, zR]
   exact Wk.of_eq (by rw [ylb hx hb hall])
  ·intro hb
   try simp only [hB, decide_eq_true_eq, decide_eq_false_iff_not] at hb
   refine AW.skip ?_
   refine hK6 _ _ _ ?_; clear hK6
   refine AW.regionK 0 (fun _ => none) [0, 1, 7, 8] [] ?_
   simp only [go_sem, reduceIte, reduceCtorEq, zA, zM, zE, zL, zD, zS, zP, zB, zI, zR]
   repeat with_reducible refine cj ?_ ?_
   all_goals try first | omega
   rw [← hQl1]
   change Exists _
   refine ⟨_, ?hm, j + 1, rfl, ?henv, ?hstore, ?hst⟩
   case henv =>
    repeat' (first | rfl | refine yaa ?_ ?_ | refine yad ?_ ?_ ?_ ?_ | refine yah ?_ | refine yae ?_ | refine yai ?_ | refine yaj ?_ | refine yan ?_ ?_ ?_ | refine yak ?_ ?_ ?_ | refine yal ?_ | refine yaf ?_ ?_ | refine yab ?_ ?_)
    all_goals (first | (simp; done) | omega | (simp; omega))
   case hstore =>
    repeat' (first | rfl | refine yaa ?_ ?_ | refine yad ?_ ?_ ?_ ?_ | refine yah ?_ | refine yae ?_ | refine yai ?_ | refine yaj ?_ | refine yan ?_ ?_ ?_ | refine yak ?_ ?_ ?_ | refine yal ?_ | refine yaf ?_ ?_ | refine yab ?_ ?_)
    all_goals (first | (simp; done) | omega | (simp; omega))
   case hst =>
    exact ⟨by omega, by rw [hats, hall, hb]; rfl⟩
   case hm => omega
 ·intro hb
  try simp only [hB, decide_eq_true_eq, decide_eq_false_iff_not] at hb
  refine AW.keep [] [] ?_
  try simp only [go_sem, reduceIte, reduceCtorEq, zA, zM, zE, zL, zD, zS, zP, zB, zI, zR]
  refine AW.exit ?_
  rw [← hQl1]
  refine hK2 _ _ _ ?_; clear hK2
  refine AW.seq fun K10 hK10 => ?_
  refine AW.regionK 0 (fun _ => none) [4] [] ?_
  simp only [go_sem, reduceIte, reduceCtorEq, zA, zM, zE, zL, zD, zS, zP, zB, zI, zR]
  repeat with_reducible refine cj ?_ ?_
  all_goals try first | omega
  refine hK10 _ _ _ ?_; clear hK10
  refine AW.ret ?_
  rw [← hQr]
  simp only [go_sem, reduceIte, reduceCtorEq, zA, zM, zE, zL, zD, zS, zP, zB, zI, zR]
  exact Wk.of_eq (by rw [List.take_of_length_le (by omega)] at hall; rw [yhc hall])
theorem ctgreat_r (rs : List USet) (hl : yom rs) : Reads Tryd.prog 34 false [.rsl 2 (rs.map rowV), .fn 35 []] (.bool (rs.any ykp)) := by
 have h := ixgreat_r rs hl
 have hge := ynk ykp rs
 refine Reads.body (rs := [.tmp 4]) Tryd.func34 rfl Tryd.ntmps34 rfl (by simp) ?_
 generalize hQr : retQ _ _ _ = Qr
 refine AW.seq fun K1 hK1 => ?_
 refine AW.regionK 0 (fun _ => none) [0, 1] [] ?_
 simp only [go_sem, reduceIte, reduceCtorEq, zA, zM, zE, zL, zD, zS, zP, zB, zI, zR]
 repeat with_reducible refine cj ?_ ?_
 all_goals try first | omega
 refine hK1 _ _ _ ?_; clear hK1
 refine AW.seq fun K2 hK2 => ?_
 refine AW.regionK 0 (fun ii => if ii = 2 then some (.reads false (.int .i64 (ixf ykp rs))) else none) [4] [] ?_
 simp only [go_sem, reduceIte, reduceCtorEq, zA, zM, zE, zL, zD, zS, zP, zB, zI, zR]
 repeat with_reducible refine cj ?_ ?_
 all_goals try first | (exact h) | omega | exact ent (by kernel_rfl)
 refine hK2 _ _ _ ?_; clear hK2
 refine AW.ret ?_
 rw [← hQr]
 simp only [go_sem, reduceIte, reduceCtorEq, zA, zM, zE, zL, zD, zS, zP, zB, zI, zR]
 exact Wk.of_eq (by rw [hge])
def yrw (rs : List USet) : Bool := decide ((70 : Int) < rs.length) && decide ((rs.length : Int) ≤ 512) || decide ((520 : Int) < rs.length) || rs.any ykp
theorem yrx (rs : List USet) (hl : yom rs) : Reads Tryd.prog 9 false [relV rs] (.bool (yrw rs)) := by
 have h := Reads.flat (ctgreat_r rs hl) rfl
 have hl1 := hl.1
 unfold relV
 refine Reads.body (rs := [.tmp 2]) Tryd.func9 rfl Tryd.ntmps9 rfl (by simp) ?_
 generalize hQr : retQ _ _ _ = Qr
 refine AW.seq fun K1 hK1 => ?_
 refine AW.regionK 0 (fun _ => none) [1] [1] ?_
 simp only [go_sem, reduceIte, reduceCtorEq, zA, zM, zE, zL, zD, zS, zP, zB, zI, zR]
 repeat with_reducible refine cj ?_ ?_
 all_goals try first | omega
 refine hK1 _ _ _ ?_; clear hK1
 refine AW.seq fun K2 hK2 => ?_
 refine AW.regionK 0 (fun ii => if ii = 19 then some (.reads true (.bool (rs.any ykp))) else none) [2] [] ?_
 simp only [go_sem, reduceIte, reduceCtorEq, zA, zM, zE, zL, zD, zS, zP, zB, zI, zR]
 repeat with_reducible refine cj ?_ ?_
 all_goals try first | ((intro hh; exact ⟨hh, h⟩)) | (intros; (repeat' apply And.intro) <;> first | assumption | ((intro hh; exact ⟨hh, h⟩))) | omega | exact ent (by kernel_rfl) | (intro hgd; exact absurd hgd (by decide)) | rfl | (simp only [go_sem, reduceIte, reduceCtorEq, zA, zM, zE, zL, zD, zS, zP, zB, zI, zR]; done) | (intro _hgd; simp_all [go_sem]; done)
 refine hK2 _ _ _ ?_; clear hK2
 refine AW.ret ?_
 rw [← hQr]
 simp only [go_sem, reduceIte, reduceCtorEq, zA, zM, zE, zL, zD, zS, zP, zB, zI, zR]
 exact Wk.of_eq (by unfold yrw; rfl)
def dPs : List (Int × Int) := [(0, 1), (0, 2), (1, 3), (2, 3), (0, 3)]
def dT : List (List Bool) := putL (ykd 4) dPs
theorem yn9 : dT = [[false, true, true, true], [false, false, false, true], [false, false, false, true], [false, false, false, false]] := by decide +kernel
theorem yry : Sq 4 dT := by rw [yn9]; exact ⟨rfl, by decide⟩
theorem diamond_r : Reads Tryd.prog 33 false [] (relB dT) := by
 have h := make_g 4 dPs (by decide) (by decide) (fun p hp => by simp only [dPs, List.mem_cons, List.mem_nil_iff, or_false] at hp; rcases hp with rfl | rfl | rfl | rfl | rfl <;> simp [inP])
 rw [show putL (ykd 4) dPs = dT from rfl] at h
 simp only [dPs, ya8, List.map_cons, List.map_nil] at h
 unfold relB at *
 generalize tabR dT = D at *
 refine Reads.body (rs := [.cell 0 24]) Tryd.func33 rfl Tryd.ntmps33 rfl (by simp) ?_
 generalize hQr : retQ _ _ _ = Qr
 refine AW.seq fun K1 hK1 => ?_
 refine AW.regionK 0 (fun _ => none) [0] [0] ?_
 simp only [go_sem, reduceIte, reduceCtorEq, zA, zM, zE, zL, zD, zS, zP, zB, zI, zR]
 repeat with_reducible refine cj ?_ ?_
 all_goals try first | omega
 refine hK1 _ _ _ ?_; clear hK1
 refine AW.seq fun K2 hK2 => ?_
 refine AW.regionG 0 (fun ii => if ii = 6 then some (.reads false (.tup [.agg [.rsl 2 D], .int .i64 ((0 : Nat) : Int)])) else none) (fun ii => if ii = 6 then some ([9], [9]) else none) [0, 1] [0, 1] ?_
 simp only [go_sem, reduceIte, reduceCtorEq, zA, zM, zE, zL, zD, zS, zP, zB, zI, zR]
 repeat with_reducible refine cj ?_ ?_
 all_goals try first | (exact h) | omega | exact ent (by kernel_rfl)
 refine hK2 _ _ _ ?_; clear hK2
 refine AW.seq fun K3 hK3 => ?_
 refine AW.regionK 0 (fun _ => none) [0] [0] ?_
 simp only [go_sem, reduceIte, reduceCtorEq, zA, zM, zE, zL, zD, zS, zP, zB, zI, zR]
 repeat with_reducible refine cj ?_ ?_
 all_goals try first | omega
 refine hK3 _ _ _ ?_; clear hK3
 refine AW.ret ?_
 rw [← hQr]
 simp only [go_sem, reduceIte, reduceCtorEq, zA, zM, zE, zL, zD, zS, zP, zB, zI, zR]
 exact Wk.refl _
end Go.Proofs.W

namespace Go.Proofs.W
open Go.AM Go
set_option maxRecDepth 100000
set_option maxHeartbeats 2000000
theorem yox {l : List Int} {B : Int} (hB : 0 ≤ B) (h : ∀ x ∈ l, 0 ≤ x ∧ x ≤ B) : ∀ j, 0 ≤ mxU l j ∧ mxU l j ≤ B
 | 0 => by
  unfold mxU
  by_cases h0 : 0 < l.length
  ·exact h _ (ybv h0 0)
  ·rw [getD_out (by omega)]; omega
 | j + 1 => by
  have ih := yox hB h j
  unfold mxU
  have : 0 ≤ l.getD (j + 1) 0 ∧ l.getD (j + 1) 0 ≤ B := by
   by_cases h0 : j + 1 < l.length
   ·exact h _ (ybv h0 0)
   ·rw [getD_out (by omega)]; omega
  omega
theorem yrz : poB 4 dT = true := by rw [yn9]; decide +kernel
theorem yqf : (yas dT 4).length ≤ 2000 := by rw [yn9]; decide +kernel
theorem yr0 : levO 4 dT = [0, 1, 1, 2] := by rw [yn9]; decide +kernel
theorem dT_w : (chainsT 4 dT).length = 2 := by rw [yn9]; decide +kernel
theorem dT_h : heightT 4 dT = 3 := by unfold heightT; rw [yr0]; decide +kernel
theorem dT_c1 : ylj 4 dT [0, 1, 3] = true := by rw [yn9]; decide +kernel
theorem dT_c2 : ylj 4 dT [1, 2] = false := by rw [yn9]; decide +kernel
theorem dT_a : yky dT [false, true, true, false] = true := by rw [yn9]; decide +kernel
theorem dT_s : setW [false, true, true, false] 4 = [6] := by decide +kernel
theorem yr1 : Reads Tryd.prog 8 false [] (.bool true) := by
 have hd := diamond_r
 have hw := yrv 4 dT yry (by decide) yrz yqf
 have hh := yqe 4 dT yry (by decide) yrz yqf (by rw [yr0]; rfl) (fun j => by have := yox (l := levO 4 dT) (B := 4) (by decide) (by rw [yr0]; decide) j; omega)
 have h1 := Reads.flat (yn8 4 dT yry (by decide) yrz [0, 1, 3] (by decide)) rfl
 have h2 := Reads.flat (yn8 4 dT yry (by decide) yrz [1, 2] (by decide)) rfl
 have h3 := Reads.flat (isanti_g 4 dT yry (by decide) yrz [false, true, true, false] rfl) rfl
 rw [dT_w] at hw
 rw [dT_h] at hh
 rw [dT_c1] at h1
 rw [dT_c2] at h2
 rw [dT_a, dT_s] at h3
 simp only [ints, words, List.map_cons, List.map_nil] at h1 h2 h3
 unfold relB at *
 generalize tabR dT = D at *
 refine Reads.body (rs := [.tmp 0]) Tryd.func8 rfl Tryd.ntmps8 rfl (by simp) ?_
 generalize hQr : retQ _ _ _ = Qr
 refine AW.seq fun K1 hK1 => ?_
 refine AW.regionK 0 (fun _ => none) [] [] ?_
 simp only [go_sem, reduceIte, reduceCtorEq, zA, zM, zE, zL, zD, zS, zP, zB, zI, zR, decide_true, eq_self]
 repeat with_reducible refine cj ?_ ?_
 all_goals try first | omega
 refine hK1 _ _ _ ?_; clear hK1
 refine AW.seq fun K2 hK2 => ?_
 refine AW.regionK 0 (fun ii => if ii = 0 then some (.reads false (.agg [.rsl 2 D])) else if ii = 1 then some (.reads false (.tup [.int .i64 ((2 : Nat) : Int), .int .i64 0])) else none) [1, 2] [] ?_
 simp only [go_sem, reduceIte, reduceCtorEq, zA, zM, zE, zL, zD, zS, zP, zB, zI, zR, decide_true, eq_self]
 repeat with_reducible refine cj ?_ ?_
 all_goals try first | (first | exact hd | exact hw) | omega | exact ent (by kernel_rfl)
 refine hK2 _ _ _ ?_; clear hK2
 refine AW.seq fun K3 hK3 => ?_
 refine AW.regionK 0 (fun ii => if ii = 0 then some (.reads false (.agg [.rsl 2 D])) else if ii = 1 then some (.reads false (.tup [.int .i64 3, .int .i64 0])) else none) [1, 2, 3, 4] [] ?_
 simp only [go_sem, reduceIte, reduceCtorEq, zA, zM, zE, zL, zD, zS, zP, zB, zI, zR, decide_true, eq_self]
 repeat with_reducible refine cj ?_ ?_
 all_goals try first | (first | exact hd | exact hh) | omega | exact ent (by kernel_rfl)
 refine hK3 _ _ _ ?_; clear hK3
 refine AW.seq fun K4 hK4 => ?_
 refine AW.regionK 0 (fun ii => if ii = 15 then some (.reads false (.agg [.rsl 2 D])) else if ii = 17 then some (.reads true (.bool true)) else if ii = 20 then some (.reads false (.agg [.rsl 2 D])) else if ii = 22 then some (.reads true (.bool false)) else if ii = 26 then some (.reads false (.agg [.rsl 2 D])) else if ii = 29 then some (.reads true (.bool true)) else none) [0] [] ?_
 simp only [go_sem, reduceIte, reduceCtorEq, zA, zM, zE, zL, zD, zS, zP, zB, zI, zR, decide_true, eq_self]
 repeat with_reducible refine cj ?_ ?_
 all_goals try first | (first | exact hd | exact h1 | exact h2 | exact h3) | (intros; (repeat' apply And.intro) <;> first | assumption | (first | exact hd | exact h1 | exact h2 | exact h3)) | omega | exact ent (by kernel_rfl) | (intro hgd; exact absurd hgd (by decide)) | rfl | (simp only [go_sem, reduceIte, reduceCtorEq, zA, zM, zE, zL, zD, zS, zP, zB, zI, zR, decide_true, eq_self]; done) | (intro _hgd; simp_all [go_sem]; done)
 refine hK4 _ _ _ ?_; clear hK4
 refine AW.ret ?_
 rw [← hQr]
 simp only [go_sem, reduceIte, reduceCtorEq, zA, zM, zE, zL, zD, zS, zP, zB, zI, zR, decide_true, eq_self]
 exact Wk.refl _
end Go.Proofs.W

namespace Go.Proofs.W
open Go.AM Go
set_option maxRecDepth 100000
set_option maxHeartbeats 2000000
end Go.Proofs.W

/- Neighbors out of a table; the size of a maximum matching. -/
namespace Go.AM
def remL (p : Nat → Bool) (n j : Nat) : List Int := (((List.range n).drop j).filter p).map fun (i : Nat) => (i : Int)
theorem remL_step (p : Nat → Bool) {n j : Nat} (h : j < n) : remL p n j = if p j = true then (j : Int) :: remL p n (j + 1) else remL p n (j + 1) := by
  unfold remL
  rw [List.drop_eq_getElem_cons (by simpa using h), List.filter_cons, List.getElem_range]
  split <;> simp
theorem remL_end (p : Nat → Bool) (n : Nat) : remL p n n = [] := by
  unfold remL
  rw [List.drop_of_length_le (by simp)]; rfl
def nbT (n : Nat) (t : List (List Bool)) : List (List Int) := (List.range n).map fun i => remL (atT t i) n 0
theorem ykq (n : Nat) (t : List (List Bool)) : (nbT n t).length = n := by simp [nbT]
theorem yr2 {n : Nat} {t : List (List Bool)} {i : Nat} (h : i < n) : (nbT n t).getD i [] = remL (atT t i) n 0 := by
  unfold nbT
  rw [List.getD_eq_getElem?_getD, List.getElem?_map, List.getElem?_range h]; rfl
theorem remL_mem {p : Nat → Bool} {n : Nat} {x : Int} : x ∈ remL p n 0 ↔ ∃ j : Nat, x = j ∧ j < n ∧ p j = true := by
  unfold remL
  simp only [List.drop_zero, List.mem_map, List.mem_filter, List.mem_range]
  constructor
  · rintro ⟨j, ⟨h1, h2⟩, rfl⟩; exact ⟨j, rfl, h1, h2⟩
  · rintro ⟨j, rfl, h1, h2⟩; exact ⟨j, ⟨h1, h2⟩, rfl⟩
theorem ymn (n : Nat) (t : List (List Bool)) : ∀ row ∈ nbT n t, ∀ r ∈ row, 0 ≤ r ∧ r < (n : Int) := fun row hr r hrr => by
  unfold nbT at hr
  obtain ⟨i, _, rfl⟩ := List.mem_map.1 hr
  obtain ⟨j, rfl, h1, _⟩ := remL_mem.1 hrr
  omega
theorem nbT_mem {n : Nat} {t : List (List Bool)} (l : Nat) (r : Int) : r ∈ nbl (nbT n t) l ↔ ((l : Int), r) ∈ yas t n := by
  by_cases hl : l < n
  · unfold nbl
    rw [yr2 hl, remL_mem, pairsT_mem]
    constructor
    · rintro ⟨j, rfl, h1, h2⟩; exact ⟨l, j, rfl, hl, h1, h2⟩
    · rintro ⟨i, j, e, h1, h2, h3⟩
      simp only [Prod.mk.injEq] at e
      have : l = i := by omega
      subst this
      exact ⟨j, e.2, h2, h3⟩
  · have : nbl (nbT n t) l = [] := by unfold nbl; exact getD_out (by rw [ykq]; omega) _
    rw [this, pairsT_mem]
    constructor
    · intro h; cases h
    · rintro ⟨i, j, e, h1, h2, h3⟩
      simp only [Prod.mk.injEq] at e
      omega
theorem Mch.nb {n m : Nat} {nb nb' : List (List Int)} {L R : List Int} (h : Mch n m nb L R) (hm : ∀ l r, r ∈ nbl nb l → r ∈ nbl nb' l) : Mch n m nb' L R :=
  ⟨h.hL, h.hR, h.hRn, h.hLm, h.hC, fun l hl => hm _ _ (h.hE l hl)⟩
theorem NoAug.nb {n : Nat} {nb nb' : List (List Int)} {L R : List Int} (h : NoAug nb n L R) (hm : ∀ l r, r ∈ nbl nb' l → r ∈ nbl nb l) : NoAug nb' n L R := by
  obtain ⟨T, h1, h2⟩ := h
  exact ⟨T, fun r hr => ⟨(h1 r hr).1, fun x hx => (h1 r hr).2 x (hm _ _ hx)⟩, fun l hl hf r hr => h2 l hl hf r (hm _ _ hr)⟩
theorem yqg {n m : Nat} {E : List (Int × Int)} (hE : ∀ e ∈ E, yb4 n m e = true) {L R L' R' : List Int} (h : Mch n m (nbOf n E) L R) (ha : NoAug (nbOf n E) n L R) (h' : Mch n m (nbOf n E) L' R') : cnt (pL L') n ≤ cnt (pL L) n := by
  classical
  have hR : Rch n m E L R (fun i => decide (RL (nbOf n E) n L R i)) (fun r => decide (RR (nbOf n E) n L R r)) := ⟨h, ha, hE, fun i => by simp, fun i => by simp⟩
  have := hR.most (yow h' hE)
  rw [yml h'.hL] at this
  exact this
theorem maxT_size {n : Nat} {t : List (List Bool)} (hE : ∀ e ∈ yas t n, yb4 n n e = true) {L R : List Int} (h : Mch n n (nbOf n (yas t n)) L R) (ha : NoAug (nbOf n (yas t n)) n L R) : cnt (pL (maxLR (nbT n t) n n n).1) n = cnt (pL L) n := by
  obtain ⟨h1, h2⟩ := yn5 (ykq n t) (ymn n t)
  have hm : ∀ l r, r ∈ nbl (nbT n t) l ↔ r ∈ nbl (nbOf n (yas t n)) l := fun l r => by rw [nbT_mem, yct hE]
  have h1' := h1.nb fun l r => (hm l r).1
  have h2' := h2.nb fun l r => (hm l r).2
  exact Nat.le_antisymm (yqg hE h ha h1') (yqg hE h1' h2' h)
end Go.AM

namespace Go.Proofs.W
open Go.AM Go
set_option maxRecDepth 100000
set_option maxHeartbeats 2000000
theorem raug_u {n : Nat} (hn : n ≤ 512) {t : List (List Bool)} (hs : Sq n t) : ∀ (fu : Nat) (l : Int) (s : List Bool) (L R : List Int) (b' : Bool) (s' : List Bool) (L' R' : List Int), uns s < fu → 0 ≤ l → l < (n : Int) → MOk n n (nbT n t) s L R →
  mtry (nbT n t) fu l s L R = (b', s', L', R') → ∀ (g0 v0 g1 v1 : Nat),
  Upd Tryd.prog 63 [(0, some ⟨g0, v0, 1, ints R⟩), (1, some ⟨g1, v1, 1, ya9 s⟩)] [.rsl 1 (ydf t), .int .i64 l, .sl ⟨0, g0, none⟩ 0 n none, .sl ⟨1, g1, none⟩ 0 n none]
   (fun _ => .bool b') (fun kk => [(0, some ⟨g0, kk, 1, ints R'⟩), (1, some ⟨g1, kk, 1, ya9 s'⟩)]) := by
 intro fu
 induction fu with
 | zero => intro l s L R b' s' L' R' hu; omega
 | succ fu ih =>
 intro l s0 L0 R0 b' s' L' R' hu hl0 hl1 hok0 hres g0 v0 g1 v1
 have hgn := yfm (t := t) (i := l.toNat) (by rw [hs.len]; omega)
 have hnl := yef t
 have hlen := hs.len
 have hrw := hs.rowLen (i := l.toNat) (by omega)
 have hrd : (nbT n t).getD l.toNat [] = remL (atT t l.toNat) n 0 := yr2 (by omega)
 have hat : ∀ j, (rowT t l.toNat).getD j false = atT t l.toNat j := fun _ => rfl
 unfold mtry at hres
 rw [hrd] at hres
 refine Upd.of_body (rs := [.tmp 8]) Tryd.func63 rfl Tryd.ntmps63 rfl (by simp) ?_
 intro k0 k hk0 hk1
 generalize hQr : retQ _ _ _ = Qr
 refine AW.seq fun K1 hK1 => ?_
 refine AW.regionK 100 (fun _ => none) [0, 1, 2, 3] [0, 1] ?_
 simp only [go_sem, reduceIte, reduceCtorEq, zA, zM, zE, zL, zD, zS, zP, zB, zI, zR, hnl, hlen, yac, yag, hgn, hrw]
 repeat with_reducible refine cj ?_ ?_
 all_goals try first | omega
 refine hK1 _ _ _ ?_; clear hK1
 refine AW.seq fun K2 hK2 => ?_
 refine AW.seq fun K3 hK3 => ?_
 refine AW.regionK 100 (fun _ => none) [0, 1, 2, 3, 9] [0, 1] ?_
 simp only [go_sem, reduceIte, reduceCtorEq, zA, zM, zE, zL, zD, zS, zP, zB, zI, zR, hnl, hlen, yac, yag, hgn, hrw]
 repeat with_reducible refine cj ?_ ?_
 all_goals try first | omega
 refine hK3 _ _ _ ?_; clear hK3
 refine AW.block ?_
 refine AW.loopE (fun mm ee ss kk => ∃ (j v0 v1 : Nat) (s : List Bool) (L R : List Int), n - j = mm ∧ ee = [(0, .rsl 1 (ydf t)), (1, .int .i64 l), (2, .sl ⟨0, g0, none⟩ 0 n none), (3, .sl ⟨1, g1, none⟩ 0 n none), (9, .int .i64 (j : Nat))] ∧ ss = [(0, some ⟨g0, v0, 1, ints R⟩), (1, some ⟨g1, v1, 1, ya9 s⟩)] ∧ (j ≤ n ∧ MOk n n (nbT n t) s L R ∧ uns s < fu + 1 ∧ mgo (mtry (nbT n t) fu) l (remL (atT t l.toNat) n j) s L R = (b', s', L', R'))) ?_ ?_
 ·refine ⟨_, 0, ?_, ?_, s0, L0, R0, rfl, ?henv, ?hstore, ?hst⟩
  case henv =>
   repeat' (first | rfl | refine yaa ?_ ?_ | refine yad ?_ ?_ ?_ ?_ | refine yah ?_ | refine yae ?_ | refine yai ?_ | refine yaj ?_ | refine yan ?_ ?_ ?_ | refine yak ?_ ?_ ?_ | refine yal ?_ | refine yaf ?_ ?_ | refine yab ?_ ?_)
   all_goals (first | (simp; done) | omega | (simp; omega))
  case hstore =>
   repeat' (first | rfl | refine yaa ?_ ?_ | refine yad ?_ ?_ ?_ ?_ | refine yah ?_ | refine yae ?_ | refine yai ?_ | refine yaj ?_ | refine yan ?_ ?_ ?_ | refine yak ?_ ?_ ?_ | refine yal ?_ | refine yaf ?_ ?_ | refine yab ?_ ?_)
   all_goals (first | (simp; done) | omega | (simp; omega))
  case hst =>
   exact ⟨by omega, hok0, hu, hres⟩
 rintro mm ee ss kk ⟨j, v0, v1, s, L, R, rfl, rfl, rfl, hI⟩
 generalize hQl1 : ybb _ _ = Ql1
 obtain ⟨hj, hok, hun, hgo⟩ := hI
 refine AW.seq fun K4 hK4 => ?_
 refine AW.seq fun K5 hK5 => ?_
 refine AW.regionK 100 (fun _ => none) [0, 1, 2, 3, 9, 13] [0, 1] ?_
 simp only [go_sem, reduceIte, reduceCtorEq, zA, zM, zE, zL, zD, zS, zP, zB, zI, zR, hnl, hlen, yac, yag, hgn, hrw]
 repeat with_reducible refine cj ?_ ?_
 all_goals try first | omega
 refine hK5 _ _ _ ?_; clear hK5
 refine AW.cond rfl (by simp only [go_sem, reduceIte, reduceCtorEq, zA, zM, zE, zL, zD, zS, zP, zB, zI, zR]) ?_ ?_
 ·intro hb
  try simp only [hB, decide_eq_true_eq, decide_eq_false_iff_not] at hb
  have hsl := hok.hs
  have hRl := hok.hR.1
  have hLl := hok.hL.1
  have hgt := ybx (l := rowT t l.toNat) (i := j) (by omega)
  rw [hat] at hgt
  have hgs := ybx (l := s) (i := j) (by omega)
  have hgR := ybg (l := R) (i := j) (by omega)
  have hus := bools_upd s j true
  have hrs := remL_step (atT t l.toNat) (n := n) (j := j) (by omega)
  rw [hrs] at hgo
  refine AW.skip ?_
  refine hK4 _ _ _ ?_; clear hK4
  refine AW.seq fun K6 hK6 => ?_
  refine AW.block ?_
  refine AW.seq fun K7 hK7 => ?_
  refine AW.seq fun K8 hK8 => ?_
  refine AW.regionK 100 (fun _ => none) [0, 1, 2, 3, 9, 29] [0, 1] ?_
  simp only [go_sem, reduceIte, reduceCtorEq, zA, zM, zE, zL, zD, zS, zP, zB, zI, zR, hnl, hlen, yac, yag, hgn, hrw, hgt, hsl, hgs]
  repeat with_reducible refine cj ?_ ?_
  all_goals try first | omega | (intros; (repeat' apply And.intro) <;> first | assumption | omega | decide) | (intro hgd; exact absurd hgd (by decide)) | rfl | (simp only [go_sem, reduceIte, reduceCtorEq, zA, zM, zE, zL, zD, zS, zP, zB, zI, zR, hnl, hlen, yac, yag, hgn, hrw, hgt, hsl, hgs]; done) | (intro _hgd; simp_all [go_sem]; done)
  refine hK8 _ _ _ ?_; clear hK8
  refine AW.cond rfl (by simp only [go_sem, reduceIte, reduceCtorEq, zA, zM, zE, zL, zD, zS, zP, zB, zI, zR]) ?_ ?_
  ·intro hb
   try simp only [hB, decide_eq_true_eq, decide_eq_false_iff_not] at hb
   have hgo2 : mgo (mtry (nbT n t) fu) l (remL (atT t l.toNat) n (j + 1)) s L R = (b', s', L', R') := by
    by_cases ha : atT t l.toNat j = true
    ·rw [if_pos ha] at hgo
     unfold mgo at hgo
     rw [Int.toNat_natCast, if_pos (by rcases hb with hb | hb; rw [ha] at hb; cases hb; exact hb)] at hgo
     exact hgo
    ·rw [if_neg ha] at hgo; exact hgo
   obtain ⟨L2, hLe⟩ : ∃ x, x = L := ⟨_, rfl⟩
   refine AW.keep [0, 1, 2, 3, 9] [0, 1] ?_
   try simp only [go_sem, reduceIte, reduceCtorEq, zA, zM, zE, zL, zD, zS, zP, zB, zI, zR]
   refine AW.exit ?_
   refine hK6 _ _ _ ?_; clear hK6
   refine AW.regionK 100 (fun _ => none) [0, 1, 2, 3, 9] [0, 1] ?_
   simp only [go_sem, reduceIte, reduceCtorEq, zA, zM, zE, zL, zD, zS, zP, zB, zI, zR, hnl, hlen, yac, yag, hgn, hrw]
   repeat with_reducible refine cj ?_ ?_
   all_goals try first | omega
   rw [← hQl1]
   change Exists _
   refine ⟨_, ?hm, j + 1, ?_, ?_, ?_, L2, ?_, rfl, ?henv, ?hstore, ?hst⟩
   case henv =>
    repeat' (first | rfl | refine yaa ?_ ?_ | refine yad ?_ ?_ ?_ ?_ | refine yah ?_ | refine yae ?_ | refine yai ?_ | refine yaj ?_ | refine yan ?_ ?_ ?_ | refine yak ?_ ?_ ?_ | refine yal ?_ | refine yaf ?_ ?_ | refine yab ?_ ?_)
    all_goals (first | (simp; done) | omega | (simp; omega))
   case hstore =>
    repeat' (first | rfl | refine yaa ?_ ?_ | refine yad ?_ ?_ ?_ ?_ | refine yah ?_ | refine yae ?_ | refine yai ?_ | refine yaj ?_ | refine yan ?_ ?_ ?_ | refine yak ?_ ?_ ?_ | refine yal ?_ | refine yaf ?_ ?_ | refine yab ?_ ?_)
    all_goals (first | (simp; done) | omega | (simp; omega))
   case hst =>
    first | exact ⟨by omega, by rw [hLe]; exact hok, hun, by rw [hLe]; exact hgo2⟩ | exact ⟨by omega, hmk.1, by omega, hgo⟩
   case hm => omega
  ·intro hb
   try simp only [hB, decide_eq_true_eq, decide_eq_false_iff_not] at hb
   have ha : atT t l.toNat j = true := by cases e : atT t l.toNat j with | true => rfl | false => rw [e] at hb; simp at hb
   have hsb : s.getD j false = false := by cases e : s.getD j false with | false => rfl | true => rw [ha, e] at hb; simp at hb
   clear hb
   rw [if_pos ha] at hgo
   unfold mgo at hgo
   rw [Int.toNat_natCast, if_neg (by rw [hsb]; simp)] at hgo
   have hmk := yeg (r := (j : Int)) (s := s) (L := L) (R := R) (fun l s L R => ydy fu l s L R) (by omega) hok (by rw [Int.toNat_natCast]; exact hsb)
   generalize hms : yid (mtry (nbT n t) fu) (j : Int) s L R = x at *
   obtain ⟨b2, s2, L2, R2⟩ := x
   simp only at hgo hmk
   have hu2 := ints_upd R2 j l
   have hR2 := hmk.1.hR.1
   unfold yid at hms
   rw [Int.toNat_natCast] at hms
   refine AW.skip ?_
   refine hK7 _ _ _ ?_; clear hK7
   refine AW.seq fun K9 hK9 => ?_
   refine AW.regionK 100 (fun _ => none) [0, 1, 2, 3, 9] [0, 1] ?_
   simp only [go_sem, reduceIte, reduceCtorEq, zA, zM, zE, zL, zD, zS, zP, zB, zI, zR, hnl, hlen, yac, yag, hgn, hrw, hsl, hus]
   repeat with_reducible refine cj ?_ ?_
   all_goals try first | omega
   refine hK9 _ _ _ ?_; clear hK9
   refine AW.seq fun K10 hK10 => ?_
   have hD6 : ∀ (w0 w1 : Nat) (kk : Nat), K10 [(0, .rsl 1 (ydf t)), (1, .int .i64 l), (2, .sl ⟨0, g0, none⟩ 0 n none), (3, .sl ⟨1, g1, none⟩ 0 n none), (9, .int .i64 (j : Nat)), (47, .bool b2)] [(0, some ⟨g0, w0, 1, ints R2⟩), (1, some ⟨g1, w1, 1, ya9 s2⟩)] kk := by
    intro w0 w1 kk
    refine hK10 _ _ _ ?_; clear hK10
    refine AW.cond rfl (by simp only [go_sem, reduceIte, reduceCtorEq, zA, zM, zE, zL, zD, zS, zP, zB, zI, zR]) ?_ ?_
    ·intro hb
     try simp only [hB, decide_eq_true_eq, decide_eq_false_iff_not] at hb
     subst hb
     simp only [Prod.mk.injEq, Int.toNat_natCast] at hgo
     obtain ⟨rfl, rfl, rfl, rfl⟩ := hgo
     refine AW.seq fun K13 hK13 => ?_
     refine AW.regionK 100 (fun _ => none) [] [0, 1] ?_
     simp only [go_sem, reduceIte, reduceCtorEq, zA, zM, zE, zL, zD, zS, zP, zB, zI, zR, hnl, hlen, yac, yag, hgn, hrw, hR2, hu2]
     repeat with_reducible refine cj ?_ ?_
     all_goals try first | omega
     refine hK13 _ _ _ ?_; clear hK13
     refine AW.seq fun K14 hK14 => ?_
     refine AW.regionK 100 (fun _ => none) [8] [0, 1] ?_
     simp only [go_sem, reduceIte, reduceCtorEq, zA, zM, zE, zL, zD, zS, zP, zB, zI, zR, hnl, hlen, yac, yag, hgn, hrw]
     repeat with_reducible refine cj ?_ ?_
     all_goals try first | omega
     refine hK14 _ _ _ ?_; clear hK14
     refine AW.ret ?_
     rw [← hQl1]
     rw [← hQr]
     simp only [go_sem, reduceIte, reduceCtorEq, zA, zM, zE, zL, zD, zS, zP, zB, zI, zR, hnl, hlen, yac, yag, hgn, hrw]
     refine ⟨[(0, 0, false), (1, 1, false)], ?_⟩
     simp only [go_sem, reduceIte, zE, yb9, ydp]
     first | rfl | exact ⟨rfl, rfl⟩
    ·intro hb
     try simp only [hB, decide_eq_true_eq, decide_eq_false_iff_not] at hb
     subst hb
     simp only at hgo
     refine AW.skip ?_
     refine hK6 _ _ _ ?_; clear hK6
     refine AW.regionK 100 (fun _ => none) [0, 1, 2, 3, 9] [0, 1] ?_
     simp only [go_sem, reduceIte, reduceCtorEq, zA, zM, zE, zL, zD, zS, zP, zB, zI, zR, hnl, hlen, yac, yag, hgn, hrw]
     repeat with_reducible refine cj ?_ ?_
     all_goals try first | omega
     rw [← hQl1]
     change Exists _
     refine ⟨_, ?hm, j + 1, ?_, ?_, ?_, L2, ?_, rfl, ?henv, ?hstore, ?hst⟩
     case henv =>
      repeat' (first | rfl | refine yaa ?_ ?_ | refine yad ?_ ?_ ?_ ?_ | refine yah ?_ | refine yae ?_ | refine yai ?_ | refine yaj ?_ | refine yan ?_ ?_ ?_ | refine yak ?_ ?_ ?_ | refine yal ?_ | refine yaf ?_ ?_ | refine yab ?_ ?_)
      all_goals (first | (simp; done) | omega | (simp; omega))
     case hstore =>
      repeat' (first | rfl | refine yaa ?_ ?_ | refine yad ?_ ?_ ?_ ?_ | refine yah ?_ | refine yae ?_ | refine yai ?_ | refine yaj ?_ | refine yan ?_ ?_ ?_ | refine yak ?_ ?_ ?_ | refine yal ?_ | refine yaf ?_ ?_ | refine yab ?_ ?_)
      all_goals (first | (simp; done) | omega | (simp; omega))
     case hst =>
      first | exact ⟨by omega, by rw [hLe]; exact hok, hun, by rw [hLe]; exact hgo2⟩ | exact ⟨by omega, hmk.1, by omega, hgo⟩
     case hm => omega
   by_cases hn6 : R.getD j 0 < 0
   ·-- region 6
    have hd6 : decide (R.getD j 0 < 0) = true := decide_eq_true hn6
    simp only [if_pos hn6, Prod.mk.injEq] at hms
    obtain ⟨rfl, rfl, rfl, rfl⟩ := hms
    refine AW.regionS 100 (fun ii => if ii = 13 then some (.skip) else none) [0, 1, 2, 3, 9, 47] [0, 1] ?_
    simp only [go_sem, reduceIte, reduceCtorEq, zA, zM, zE, zL, zD, zS, zP, zB, zI, zR, hnl, hlen, yac, yag, hgn, hrw, hRl, hgR, hd6]
    repeat with_reducible refine cj ?_ ?_
    all_goals try first | omega | exact ent (by kernel_rfl) | (intros; (repeat' apply And.intro) <;> first | assumption | omega | decide) | (intro hgd; exact absurd hgd (by decide)) | rfl | (simp only [go_sem, reduceIte, reduceCtorEq, zA, zM, zE, zL, zD, zS, zP, zB, zI, zR, hnl, hlen, yac, yag, hgn, hrw, hRl, hgR, hd6]; done) | (intro _hgd; simp_all [go_sem]; done)
    exact hD6 _ _ _
   ·-- region 6
    have hd6 : decide (R.getD j 0 < 0) = false := decide_eq_false hn6
    simp only [if_neg hn6] at hms
    have hRn := hok.hR.2 (R.getD j 0) (ybv (by omega) 0)
    have hih := ih (R.getD j 0) (s.set j true) L R b2 s2 L2 R2 (by have := ykb (s := s) (i := j) (by omega) hsb; omega) (by omega) hRn (hok.seen _) hms
    refine AW.regionK 100 (fun ii => if ii = 13 then some (.upd [0, 1] (fun kk => [(0, some ⟨g0, kk, 1, ints R2⟩), (1, some ⟨g1, kk, 1, ya9 s2⟩)]) (fun _ => .bool b2)) else none) [0, 1, 2, 3, 9, 47] [0, 1] ?_
    simp only [go_sem, reduceIte, reduceCtorEq, zA, zM, zE, zL, zD, zS, zP, zB, zI, zR, hnl, hlen, yac, yag, hgn, hrw, hRl, hgR, hd6]
    repeat with_reducible refine cj ?_ ?_
    all_goals try first | (exact hih _ _ _ _) | (intros; (repeat' apply And.intro) <;> first | assumption | (exact hih _ _ _ _)) | omega | exact ent (by kernel_rfl) | (intro hgd; exact absurd hgd (by decide)) | rfl | (simp only [go_sem, reduceIte, reduceCtorEq, zA, zM, zE, zL, zD, zS, zP, zB, zI, zR, hnl, hlen, yac, yag, hgn, hrw, hRl, hgR, hd6]; done) | (intro _hgd; simp_all [go_sem]; done)
    exact hD6 _ _ _
 ·intro hb
  try simp only [hB, decide_eq_true_eq, decide_eq_false_iff_not] at hb
  have hj2 : j = n := by omega
  rw [hj2, remL_end] at hgo
  unfold mgo at hgo
  simp only [Prod.mk.injEq] at hgo
  obtain ⟨rfl, rfl, rfl, rfl⟩ := hgo
  refine AW.keep [] [0, 1] ?_
  try simp only [go_sem, reduceIte, reduceCtorEq, zA, zM, zE, zL, zD, zS, zP, zB, zI, zR]
  refine AW.exit ?_
  rw [← hQl1]
  refine hK2 _ _ _ ?_; clear hK2
  refine AW.seq fun K15 hK15 => ?_
  refine AW.regionK 100 (fun _ => none) [8] [0, 1] ?_
  simp only [go_sem, reduceIte, reduceCtorEq, zA, zM, zE, zL, zD, zS, zP, zB, zI, zR, hnl, hlen, yac, yag, hgn, hrw]
  repeat with_reducible refine cj ?_ ?_
  all_goals try first | omega
  refine hK15 _ _ _ ?_; clear hK15
  refine AW.ret ?_
  rw [← hQr]
  simp only [go_sem, reduceIte, reduceCtorEq, zA, zM, zE, zL, zD, zS, zP, zB, zI, zR, hnl, hlen, yac, yag, hgn, hrw]
  refine ⟨[(0, 0, false), (1, 1, false)], ?_⟩
  simp only [go_sem, reduceIte, zE, yb9, ydp]
  first | rfl | exact ⟨rfl, rfl⟩
end Go.Proofs.W

/- One augmentation of a matching. -/
namespace Go.AM
structure Grown (n m : Nat) (nb : List (List Int)) (L R L' R' : List Int) : Prop where
  hM : Mch n m nb L' R'
  hL : ∃ l, l < n ∧ gi L l < 0 ∧ ∀ l', 0 ≤ gi L' l' ↔ (0 ≤ gi L l' ∨ l' = l)
  hR : ∀ r, 0 ≤ gi R r → 0 ≤ gi R' r
theorem Grown.count {n m : Nat} {nb : List (List Int)} {L R L' R' : List Int} (h : Grown n m nb L R L' R') : cnt (pL L') n = cnt (pL L) n + 1 := by
  obtain ⟨l, h1, h2, h3⟩ := h.hL
  have e : ∀ i, pL L' i = (pL L i || decide (i = l)) := fun i => by
    have := h3 i
    simp only [pL]
    rw [← Bool.decide_or]
    exact decide_eq_decide.2 this
  rw [show pL L' = fun i => pL L i || decide (i = l) from funext e]
  have hp : pL L l = false := by simp [pL]; omega
  clear h2 h3 e h
  have : ∀ n, cnt (fun i => pL L i || decide (i = l)) n = cnt (pL L) n + if l < n then 1 else 0 := by
    intro n
    induction n with
    | zero => rfl
    | succ n ih =>
      rw [ych, ych, ih]
      by_cases e : n = l
      · subst e; rw [hp]; simp
      · simp only [e, decide_false, Bool.or_false]
        have h1 : (if l < n then 1 else 0) = (if l < n + 1 then 1 else (0 : Nat)) := by split <;> split <;> omega
        rw [h1]; omega
  rw [this, if_pos h1]
end Go.AM

namespace Go.Proofs.W
open Go.AM Go
set_option maxRecDepth 100000
set_option maxHeartbeats 2000000
theorem maxLR_cnt {n : Nat} {t : List (List Bool)} {j : Nat} (hj : j < n) {b : Bool} {s' : List Bool} {L' R' : List Int} (hx : mtry (nbT n t) (n + 1) (j : Int) (List.replicate n false) (maxLR (nbT n t) n n j).1 (maxLR (nbT n t) n n j).2 = (b, s', L', R')) :
  maxLR (nbT n t) n n (j + 1) = (L', R') ∧ cnt (pL L') n = cnt (pL (maxLR (nbT n t) n n j).1) n + if b = true then 1 else 0 := by
 have hsu : (maxLR (nbT n t) n n (j + 1)) = (L', R') := by show (mtry (nbT n t) (n + 1) (j : Int) (List.replicate n false) (maxLR (nbT n t) n n j).1 (maxLR (nbT n t) n n j).2).2.2 = _; rw [hx]
 obtain ⟨hM, hfr, _⟩ := yih (ykq n t) (ymn n t) j (by omega)
 obtain ⟨a1, a2, _⟩ := yp3 (ykq n t) (ymn n t) hM hj (hfr j (Nat.le_refl _)) hx
 refine ⟨hsu, ?_⟩
 cases b with
 | true =>
  obtain ⟨b1, b2, b3⟩ := a1 rfl
  have hG : Grown n n (nbT n t) (maxLR (nbT n t) n n j).1 (maxLR (nbT n t) n n j).2 L' R' := ⟨b1, ⟨j, hj, hfr j (Nat.le_refl _), b2⟩, b3⟩
  rw [hG.count]; rfl
 | false =>
  obtain ⟨e1, _, _⟩ := a2 rfl
  rw [e1]; rfl
theorem rwidth_r (n : Nat) (t : List (List Bool)) (hs : Sq n t) (hn : n ≤ 512) : Reads Tryd.prog 31 false [.rsl 1 (ydf t)] (.int .i64 ((n : Int) - (cnt (pL (maxLR (nbT n t) n n n).1) n : Int))) := by
 have hnl := yef t
 have hlen := hs.len
 have hz : List.replicate n [AV.int .i64 0] = ints (ykl n 0) := by simp [ints, ykl]
 have hz2 : List.replicate n [AV.bool false] = ya9 (List.replicate n false) := by simp [ya9]
 have hok := yji (ykq n t) (ymn n t)
 have hcl := fun j => ysy (pL (maxLR (nbT n t) n n j).1) n
 have h0 : cnt (pL (maxLR (nbT n t) n n 0).1) n = 0 := by
  unfold cnt
  rw [List.length_eq_zero_iff, List.filter_eq_nil_iff]
  intro i _ h
  have : gi (maxLR (nbT n t) n n 0).1 i = -1 := yht n i
  simp [pL, this] at h
 refine Reads.body (rs := [.tmp 2]) Tryd.func31 rfl Tryd.ntmps31 rfl (by simp) ?_
 generalize hQr : retQ _ _ _ = Qr
 refine AW.seq fun K1 hK1 => ?_
 refine AW.regionK 0 (fun _ => none) [0] [] ?_
 simp only [go_sem, reduceIte, reduceCtorEq, zA, zM, zE, zL, zD, zS, zP, zB, zI, zR, hnl, hlen, yac, yag]
 repeat with_reducible refine cj ?_ ?_
 all_goals try first | omega
 refine hK1 _ _ _ ?_; clear hK1
 refine AW.seq fun K2 hK2 => ?_
 refine AW.regionK 0 (fun _ => none) [0, 3] [] ?_
 simp only [go_sem, reduceIte, reduceCtorEq, zA, zM, zE, zL, zD, zS, zP, zB, zI, zR, hnl, hlen, yac, yag]
 repeat with_reducible refine cj ?_ ?_
 all_goals try first | omega
 refine hK2 _ _ _ ?_; clear hK2
 refine AW.seq fun K3 hK3 => ?_
 refine AW.regionK 0 (fun _ => none) [0, 3, 4] [11] ?_
 simp only [go_sem, reduceIte, reduceCtorEq, zA, zM, zE, zL, zD, zS, zP, zB, zI, zR, hnl, hlen, yac, yag, hz]
 repeat with_reducible refine cj ?_ ?_
 all_goals try first | omega
 refine hK3 _ _ _ ?_; clear hK3
 refine AW.seq fun K4 hK4 => ?_
 refine AW.seq fun K5 hK5 => ?_
 refine AW.regionK 0 (fun _ => none) [0, 3, 4, 5] [11] ?_
 simp only [go_sem, reduceIte, reduceCtorEq, zA, zM, zE, zL, zD, zS, zP, zB, zI, zR, hnl, hlen, yac, yag]
 repeat with_reducible refine cj ?_ ?_
 all_goals try first | omega
 refine hK5 _ _ _ ?_; clear hK5
 refine AW.block ?_
 refine AW.loopE (fun mm ee ss kk => ∃ (j g v : Nat), n - j = mm ∧ ee = [(0, .rsl 1 (ydf t)), (3, .int .i64 n), (4, .sl ⟨11, g, none⟩ 0 n none), (5, .int .i64 (j : Nat))] ∧ ss = [(11, some ⟨g, v, 1, ints (ykl n j)⟩)] ∧ (j ≤ n)) ?_ ?_
 ·refine ⟨_, 0, ?_, ?_, rfl, ?henv, ?hstore, ?hst⟩
  case henv =>
   repeat' (first | rfl | refine yaa ?_ ?_ | refine yad ?_ ?_ ?_ ?_ | refine yah ?_ | refine yae ?_ | refine yai ?_ | refine yaj ?_ | refine yan ?_ ?_ ?_ | refine yak ?_ ?_ ?_ | refine yal ?_ | refine yaf ?_ ?_ | refine yab ?_ ?_)
   all_goals (first | (simp; done) | omega | (simp; omega))
  case hstore =>
   repeat' (first | rfl | refine yaa ?_ ?_ | refine yad ?_ ?_ ?_ ?_ | refine yah ?_ | refine yae ?_ | refine yai ?_ | refine yaj ?_ | refine yan ?_ ?_ ?_ | refine yak ?_ ?_ ?_ | refine yal ?_ | refine yaf ?_ ?_ | refine yab ?_ ?_)
   all_goals (first | (simp; done) | omega | (simp; omega))
  case hst =>
   first | trivial | omega | (simp; done) | (simp; omega)
 rintro mm ee ss kk ⟨j, g, v, rfl, rfl, rfl, hI⟩
 generalize hQl1 : ybb _ _ = Ql1
 refine AW.seq fun K6 hK6 => ?_
 refine AW.seq fun K7 hK7 => ?_
 refine AW.regionK 0 (fun _ => none) [0, 3, 4, 5, 14] [11] ?_
 simp only [go_sem, reduceIte, reduceCtorEq, zA, zM, zE, zL, zD, zS, zP, zB, zI, zR, hnl, hlen, yac, yag]
 repeat with_reducible refine cj ?_ ?_
 all_goals try first | omega
 refine hK7 _ _ _ ?_; clear hK7
 refine AW.cond rfl (by simp only [go_sem, reduceIte, reduceCtorEq, zA, zM, zE, zL, zD, zS, zP, zB, zI, zR]) ?_ ?_
 ·intro hb
  try simp only [hB, decide_eq_true_eq, decide_eq_false_iff_not] at hb
  have hfl := fillM_len (m := n) (j := j) (by omega)
  have hus := ints_upd (ykl n j) j (-1)
  rw [fillM_succ (by omega)] at hus
  refine AW.skip ?_
  refine hK6 _ _ _ ?_; clear hK6
  refine AW.seq fun K8 hK8 => ?_
  refine AW.block ?_
  refine AW.regionK 0 (fun _ => none) [0, 3, 4, 5] [11] ?_
  simp only [go_sem, reduceIte, reduceCtorEq, zA, zM, zE, zL, zD, zS, zP, zB, zI, zR, hnl, hlen, yac, yag, hfl, hus]
  repeat with_reducible refine cj ?_ ?_
  all_goals try first | omega
  refine hK8 _ _ _ ?_; clear hK8
  refine AW.regionK 0 (fun _ => none) [0, 3, 4, 5] [11] ?_
  simp only [go_sem, reduceIte, reduceCtorEq, zA, zM, zE, zL, zD, zS, zP, zB, zI, zR, hnl, hlen, yac, yag]
  repeat with_reducible refine cj ?_ ?_
  all_goals try first | omega
  rw [← hQl1]
  change Exists _
  refine ⟨_, ?hm, j + 1, ?_, ?_, rfl, ?henv, ?hstore, ?hst⟩
  case henv =>
   repeat' (first | rfl | refine yaa ?_ ?_ | refine yad ?_ ?_ ?_ ?_ | refine yah ?_ | refine yae ?_ | refine yai ?_ | refine yaj ?_ | refine yan ?_ ?_ ?_ | refine yak ?_ ?_ ?_ | refine yal ?_ | refine yaf ?_ ?_ | refine yab ?_ ?_)
   all_goals (first | (simp; done) | omega | (simp; omega))
  case hstore =>
   repeat' (first | rfl | refine yaa ?_ ?_ | refine yad ?_ ?_ ?_ ?_ | refine yah ?_ | refine yae ?_ | refine yai ?_ | refine yaj ?_ | refine yan ?_ ?_ ?_ | refine yak ?_ ?_ ?_ | refine yal ?_ | refine yaf ?_ ?_ | refine yab ?_ ?_)
   all_goals (first | (simp; done) | omega | (simp; omega))
  case hst =>
   first | trivial | omega | (simp; done) | (simp; omega)
  case hm => omega
 ·intro hb
  try simp only [hB, decide_eq_true_eq, decide_eq_false_iff_not] at hb
  have hj : n = j := by omega
  subst hj
  rw [fillM_all]
  refine AW.keep [0, 3, 4] [11] ?_
  try simp only [go_sem, reduceIte, reduceCtorEq, zA, zM, zE, zL, zD, zS, zP, zB, zI, zR]
  refine AW.exit ?_
  rw [← hQl1]
  refine hK4 _ _ _ ?_; clear hK4
  refine AW.seq fun K9 hK9 => ?_
  refine AW.regionK 0 (fun _ => none) [0, 3, 4, 6] [11] ?_
  simp only [go_sem, reduceIte, reduceCtorEq, zA, zM, zE, zL, zD, zS, zP, zB, zI, zR, hnl, hlen, yac, yag]
  repeat with_reducible refine cj ?_ ?_
  all_goals try first | omega
  refine hK9 _ _ _ ?_; clear hK9
  refine AW.seq fun K10 hK10 => ?_
  refine AW.seq fun K11 hK11 => ?_
  refine AW.regionK 0 (fun _ => none) [0, 3, 4, 6, 7] [11] ?_
  simp only [go_sem, reduceIte, reduceCtorEq, zA, zM, zE, zL, zD, zS, zP, zB, zI, zR, hnl, hlen, yac, yag]
  repeat with_reducible refine cj ?_ ?_
  all_goals try first | omega
  refine hK11 _ _ _ ?_; clear hK11
  refine AW.block ?_
  refine AW.loopE (fun mm ee ss kk => ∃ (j g v : Nat), n - j = mm ∧ ee = [(0, .rsl 1 (ydf t)), (3, .int .i64 n), (4, .sl ⟨11, g, none⟩ 0 n none), (6, .int .i64 ((n : Int) - (cnt (pL (maxLR (nbT n t) n n j).1) n : Int))), (7, .int .i64 (j : Nat))] ∧ ss = [(11, some ⟨g, v, 1, ints (maxLR (nbT n t) n n j).2⟩)] ∧ (j ≤ n)) ?_ ?_
  ·refine ⟨_, 0, ?_, ?_, rfl, ?henv, ?hstore, ?hst⟩
   case henv =>
    repeat' (first | rfl | refine yaa ?_ ?_ | refine yad ?_ ?_ ?_ ?_ | refine yah ?_ | refine yae ?_ | refine yai ?_ | refine yaj ?_ | refine yan ?_ ?_ ?_ | refine yak ?_ ?_ ?_ | refine yal ?_ | refine yaf ?_ ?_ | refine yab ?_ ?_)
    all_goals (first | omega | (rw [h0]; simp; done) | (simp; done))
   case hstore =>
    repeat' (first | rfl | refine yaa ?_ ?_ | refine yad ?_ ?_ ?_ ?_ | refine yah ?_ | refine yae ?_ | refine yai ?_ | refine yaj ?_ | refine yan ?_ ?_ ?_ | refine yak ?_ ?_ ?_ | refine yal ?_ | refine yaf ?_ ?_ | refine yab ?_ ?_)
    all_goals (first | rfl | simp [maxLR])
   case hst =>
    first | trivial | omega | (simp; done) | (simp; omega)
  rintro mm ee ss kk ⟨j, g, v, rfl, rfl, rfl, hI⟩
  generalize hQl2 : ybb _ _ = Ql2
  refine AW.seq fun K12 hK12 => ?_
  refine AW.seq fun K13 hK13 => ?_
  refine AW.regionK 0 (fun _ => none) [0, 3, 4, 6, 7, 23] [11] ?_
  simp only [go_sem, reduceIte, reduceCtorEq, zA, zM, zE, zL, zD, zS, zP, zB, zI, zR, hnl, hlen, yac, yag]
  repeat with_reducible refine cj ?_ ?_
  all_goals try first | omega
  refine hK13 _ _ _ ?_; clear hK13
  refine AW.cond rfl (by simp only [go_sem, reduceIte, reduceCtorEq, zA, zM, zE, zL, zD, zS, zP, zB, zI, zR]) ?_ ?_
  ·intro hb
   try simp only [hB, decide_eq_true_eq, decide_eq_false_iff_not] at hb
   have hoj := hok j (by omega)
   have hcj := hcl j
   have hcj1 := hcl (j + 1)
   obtain ⟨⟨b', s', L', R'⟩, hx⟩ : ∃ x, mtry (nbT n t) (n + 1) (j : Int) (List.replicate n false) (maxLR (nbT n t) n n j).1 (maxLR (nbT n t) n n j).2 = x := ⟨_, rfl⟩
   have hau := raug_u hn hs (n + 1) (j : Int) (List.replicate n false) (maxLR (nbT n t) n n j).1 (maxLR (nbT n t) n n j).2 b' s' L' R' (by rw [yb3]; omega) (by omega) (by omega) hoj hx
   obtain ⟨hsu, hcs⟩ := maxLR_cnt (t := t) (j := j) (by omega) hx
   rw [hsu] at hcj1
   simp only at hcj1
   refine AW.skip ?_
   refine hK12 _ _ _ ?_; clear hK12
   refine AW.seq fun K14 hK14 => ?_
   refine AW.block ?_
   refine AW.seq fun K15 hK15 => ?_
   refine AW.regionK 0 (fun ii => if ii = 5 then some (.upd [11, 30] (fun kq => [(0, some ⟨g, kq, 1, ints R'⟩), (1, some ⟨kk + 14, kq, 1, ya9 s'⟩)]) (fun _ => .bool b')) else none) [0, 3, 4, 6, 7, 31] [11] ?_
   simp only [go_sem, reduceIte, reduceCtorEq, zA, zM, zE, zL, zD, zS, zP, zB, zI, zR, hnl, hlen, yac, yag, hz2]
   repeat with_reducible refine cj ?_ ?_
   all_goals try first | (exact hau _ _ _ _) | omega | exact ent (by kernel_rfl)
   refine hK15 _ _ _ ?_; clear hK15
   refine AW.cond rfl (by simp only [go_sem, reduceIte, reduceCtorEq, zA, zM, zE, zL, zD, zS, zP, zB, zI, zR]) ?_ ?_
   ·intro hb
    try simp only [hB, decide_eq_true_eq, decide_eq_false_iff_not] at hb
    rw [if_pos hb] at hcs
    refine AW.regionK 0 (fun _ => none) [0, 3, 4, 6, 7] [11] ?_
    simp only [go_sem, reduceIte, reduceCtorEq, zA, zM, zE, zL, zD, zS, zP, zB, zI, zR, hnl, hlen, yac, yag]
    repeat with_reducible refine cj ?_ ?_
    all_goals try first | omega
    refine hK14 _ _ _ ?_; clear hK14
    refine AW.regionK 0 (fun _ => none) [0, 3, 4, 6, 7] [11] ?_
    simp only [go_sem, reduceIte, reduceCtorEq, zA, zM, zE, zL, zD, zS, zP, zB, zI, zR, hnl, hlen, yac, yag]
    repeat with_reducible refine cj ?_ ?_
    all_goals try first | omega
    rw [← hQl2]
    change Exists _
    refine ⟨_, ?hm, j + 1, ?_, ?_, rfl, ?henv, ?hstore, ?hst⟩
    case henv =>
     repeat' (first | rfl | refine yaa ?_ ?_ | refine yad ?_ ?_ ?_ ?_ | refine yah ?_ | refine yae ?_ | refine yai ?_ | refine yaj ?_ | refine yan ?_ ?_ ?_ | refine yak ?_ ?_ ?_ | refine yal ?_ | refine yaf ?_ ?_ | refine yab ?_ ?_)
     all_goals (first | (rw [hsu]; simp only; omega) | omega | (simp; done))
    case hstore =>
     repeat' (first | rfl | refine yaa ?_ ?_ | refine yad ?_ ?_ ?_ ?_ | refine yah ?_ | refine yae ?_ | refine yai ?_ | refine yaj ?_ | refine yan ?_ ?_ ?_ | refine yak ?_ ?_ ?_ | refine yal ?_ | refine yaf ?_ ?_ | refine yab ?_ ?_)
     all_goals (rw [hsu])
    case hst =>
     first | trivial | omega | (simp; done) | (simp; omega)
    case hm => omega
   ·intro hb
    try simp only [hB, decide_eq_true_eq, decide_eq_false_iff_not] at hb
    rw [if_neg (by rw [hb]; simp)] at hcs
    refine AW.skip ?_
    refine hK14 _ _ _ ?_; clear hK14
    refine AW.regionK 0 (fun _ => none) [0, 3, 4, 6, 7] [11] ?_
    simp only [go_sem, reduceIte, reduceCtorEq, zA, zM, zE, zL, zD, zS, zP, zB, zI, zR, hnl, hlen, yac, yag]
    repeat with_reducible refine cj ?_ ?_
    all_goals try first | omega
    rw [← hQl2]
    change Exists _
    refine ⟨_, ?hm, j + 1, ?_, ?_, rfl, ?henv, ?hstore, ?hst⟩
    case henv =>
     repeat' (first | rfl | refine yaa ?_ ?_ | refine yad ?_ ?_ ?_ ?_ | refine yah ?_ | refine yae ?_ | refine yai ?_ | refine yaj ?_ | refine yan ?_ ?_ ?_ | refine yak ?_ ?_ ?_ | refine yal ?_ | refine yaf ?_ ?_ | refine yab ?_ ?_)
     all_goals (first | (rw [hsu]; simp only; omega) | omega | (simp; done))
    case hstore =>
     repeat' (first | rfl | refine yaa ?_ ?_ | refine yad ?_ ?_ ?_ ?_ | refine yah ?_ | refine yae ?_ | refine yai ?_ | refine yaj ?_ | refine yan ?_ ?_ ?_ | refine yak ?_ ?_ ?_ | refine yal ?_ | refine yaf ?_ ?_ | refine yab ?_ ?_)
     all_goals (rw [hsu])
    case hst =>
     first | trivial | omega | (simp; done) | (simp; omega)
    case hm => omega
  ·intro hb
   try simp only [hB, decide_eq_true_eq, decide_eq_false_iff_not] at hb
   have hj : n = j := by omega
   subst hj
   refine AW.keep [6] [] ?_
   try simp only [go_sem, reduceIte, reduceCtorEq, zA, zM, zE, zL, zD, zS, zP, zB, zI, zR]
   refine AW.exit ?_
   rw [← hQl2]
   refine hK10 _ _ _ ?_; clear hK10
   refine AW.seq fun K16 hK16 => ?_
   refine AW.regionK 0 (fun _ => none) [2] [] ?_
   simp only [go_sem, reduceIte, reduceCtorEq, zA, zM, zE, zL, zD, zS, zP, zB, zI, zR, hnl, hlen, yac, yag]
   repeat with_reducible refine cj ?_ ?_
   all_goals try first | omega
   refine hK16 _ _ _ ?_; clear hK16
   refine AW.ret ?_
   rw [← hQr]
   simp only [go_sem, reduceIte, reduceCtorEq, zA, zM, zE, zL, zD, zS, zP, zB, zI, zR, hnl, hlen, yac, yag]
   exact Wk.refl _
end Go.Proofs.W

/- The reference's heights: rounds over all pairs. -/
namespace Go.AM
structure HgtI (n : Nat) (t : List (List Bool)) (L : List Int) (r : Nat) (vi : Nat → Prop) (vis : Nat → Nat → Prop) (o : List Int) : Prop where
  len : o.length = n
  pos : ∀ j, j < n → 0 ≤ o.getD j 0
  le : ∀ j, j < n → o.getD j 0 ≤ L.getD j 0 + 1
  low : ∀ j, j < n → min (L.getD j 0 + 1) r ≤ o.getD j 0
  one : ∀ i, i < n → vi i → 1 ≤ o.getD i 0
  nxt : ∀ i j, i < n → j < n → vis i j → atT t i j = true → min (L.getD i 0 + 1) r + 1 ≤ o.getD j 0
theorem HgtI.start {n : Nat} {t : List (List Bool)} {L : List Int} (hL : IsLev n t L) : HgtI n t L 0 (fun _ => False) (fun _ _ => False) (List.replicate n 0) := by
  have e : ∀ j, (List.replicate n (0 : Int)).getD j 0 = 0 := fun j => by rw [List.getD_eq_getElem?_getD, List.getElem?_replicate]; split <;> rfl
  refine ⟨by simp, fun j _ => by rw [e]; exact Int.le_refl _, fun j hj => by rw [e]; have := hL.pos j hj; omega, fun j hj => ?_, fun _ _ h => h.elim, fun _ _ _ _ h => h.elim⟩
  rw [e]; have := hL.pos j hj; omega
theorem HgtI.bump {n : Nat} {t : List (List Bool)} {L : List Int} {r : Nat} {vi : Nat → Prop} {vis : Nat → Nat → Prop} {o : List Int} (h : HgtI n t L r vi vis o) {k : Nat} (hk : k < n) {v : Int} (h1 : o.getD k 0 ≤ v) (h2 : v ≤ L.getD k 0 + 1) : HgtI n t L r vi vis (o.set k v) := by
  have hg : ∀ j, (o.set k v).getD j 0 = if j = k then v else o.getD j 0 := fun j => by
    by_cases e : j = k
    · subst e; rw [if_pos rfl]; exact Go.AM.getD_set_eq (by rw [h.len]; exact hk) _ _
    · rw [if_neg e]; exact Go.AM.getD_set_ne (fun q => e q.symm) ..
  have hge : ∀ j, o.getD j 0 ≤ (o.set k v).getD j 0 := fun j => by rw [hg]; split; (rename_i e; subst e; omega); exact Int.le_refl _
  refine ⟨by simp [h.len], fun j hj => Int.le_trans (h.pos j hj) (hge j), fun j hj => ?_, fun j hj => Int.le_trans (h.low j hj) (hge j), fun i hi hv => Int.le_trans (h.one i hi hv) (hge i), fun i j hi hj hv ha => Int.le_trans (h.nxt i j hi hj hv ha) (hge j)⟩
  rw [hg]
  split
  · rename_i e; subst e; exact h2
  · exact h.le j hj
theorem HgtI.setOne {n : Nat} {t : List (List Bool)} {L : List Int} (hL : IsLev n t L) {r : Nat} {vi vi' : Nat → Prop} {vis vis' : Nat → Nat → Prop} {o : List Int} (h : HgtI n t L r vi vis o) {i : Nat} (hi : i < n) (hv : ∀ a, vi' a → vi a ∨ a = i) (hv2 : ∀ a b, vis' a b → vis a b) :
    HgtI n t L r vi' vis' (o.set i (max (o.getD i 0) 1)) := by
  have hb := h.bump hi (v := max (o.getD i 0) 1) (by omega) (by have := h.le i hi; have := hL.pos i hi; omega)
  refine ⟨hb.len, hb.pos, hb.le, hb.low, fun a ha hva => ?_, fun a b ha hb2 hab hat => hb.nxt a b ha hb2 (hv2 a b hab) hat⟩
  rcases hv a hva with h1 | rfl
  · exact hb.one a ha h1
  · rw [Go.AM.getD_set_eq (by rw [h.len]; exact hi)]; omega
theorem HgtI.put {n : Nat} {t : List (List Bool)} {L : List Int} (hL : IsLev n t L) {r : Nat} {vi : Nat → Prop} {vis vis' : Nat → Nat → Prop} {o : List Int} (h : HgtI n t L r vi vis o) {i j : Nat} (hi : i < n) (hj : j < n) (ht : atT t i j = true) (hv : ∀ a b, vis' a b → vis a b ∨ (a = i ∧ b = j)) :
    HgtI n t L r vi vis' (o.set j (max (o.getD j 0) (o.getD i 0 + 1))) := by
  have hb := h.bump hj (v := max (o.getD j 0) (o.getD i 0 + 1)) (by omega) (by have := h.le i hi; have := h.le j hj; have := hL.up i j hi hj ht; omega)
  refine ⟨hb.len, hb.pos, hb.le, hb.low, hb.one, fun a b ha hb2 hab hat => ?_⟩
  rcases hv a b hab with h1 | ⟨rfl, rfl⟩
  · exact hb.nxt a b ha hb2 h1 hat
  · rw [Go.AM.getD_set_eq (by rw [h.len]; exact hj)]
    have := h.low a ha
    omega
theorem HgtI.skip {n : Nat} {t : List (List Bool)} {L : List Int} {r : Nat} {vi vi' : Nat → Prop} {vis vis' : Nat → Nat → Prop} {o : List Int} (h : HgtI n t L r vi vis o) (hv : ∀ a, vi' a → vi a) (hv2 : ∀ a b, a < n → b < n → atT t a b = true → vis' a b → vis a b) : HgtI n t L r vi' vis' o :=
  ⟨h.len, h.pos, h.le, h.low, fun a ha hva => h.one a ha (hv a hva), fun a b ha hb hab hat => h.nxt a b ha hb (hv2 a b ha hb hat hab) hat⟩
theorem HgtI.next {n : Nat} {t : List (List Bool)} {L : List Int} (hL : IsLev n t L) {r : Nat} {vi : Nat → Prop} {vis : Nat → Nat → Prop} {o : List Int} (h : HgtI n t L r vi vis o) (hv : ∀ i, i < n → vi i) (hv2 : ∀ i j, i < n → j < n → vis i j) : HgtI n t L (r + 1) (fun _ => False) (fun _ _ => False) o := by
  refine ⟨h.len, h.pos, h.le, fun j hj => ?_, fun _ _ hh => hh.elim, fun _ _ _ _ hh => hh.elim⟩
  rcases hL.att j hj with h0 | ⟨i, hi, ha, he⟩
  · have := h.one j hj (hv j hj); omega
  · have := h.nxt i j hi hj (hv2 i j hi hj) ha; omega
theorem HgtI.last {n : Nat} {t : List (List Bool)} {L : List Int} (hL : IsLev n t L) {vi : Nat → Prop} {vis : Nat → Nat → Prop} {o : List Int} (h : HgtI n t L n vi vis o) {k : Nat} (hk : k < n) : o.getD k 0 = L.getD k 0 + 1 := by
  have h1 := h.low k hk
  have h2 := h.le k hk
  have h3 := ypy hL hk
  omega
def mxF (o : List Int) : Nat → Int
  | 0 => 0
  | j + 1 => max (mxF o j) (o.getD j 0)
end Go.AM

namespace Go.Proofs.W
open Go.AM Go
set_option maxRecDepth 100000
set_option maxHeartbeats 2000000
theorem yr3 {o : List Int} {n : Nat} (h : ∀ j, j < n → 0 ≤ o.getD j 0 ∧ o.getD j 0 ≤ n) : ∀ j, j ≤ n → 0 ≤ mxF o j ∧ mxF o j ≤ n
 | 0, _ => by unfold mxF; omega
 | j + 1, hj => by
  have := yr3 h j (by omega)
  have := h j (by omega)
  unfold mxF; omega
theorem yr4 {o L : List Int} {n : Nat} (hp : ∀ j, j < n → 0 ≤ L.getD j 0) (h : ∀ j, j < n → o.getD j 0 = L.getD j 0 + 1) : ∀ j, j + 1 ≤ n → mxF o (j + 1) = mxU L j + 1
 | 0, hj => by
  have h1 := h 0 (by omega)
  have h2 := hp 0 (by omega)
  unfold mxF mxU mxF; omega
 | j + 1, hj => by
  have ih := yr4 hp h j (by omega)
  have h1 := h (j + 1) (by omega)
  unfold mxF mxU
  rw [ih, h1]; omega
theorem rheight_r (n : Nat) (t : List (List Bool)) (hs : Sq n t) (hn : n ≤ 512) (hp : poB n t = true) : Reads Tryd.prog 32 false [.rsl 1 (ydf t)] (.int .i64 (heightT n t)) := by
 have hL := yor hs ((yki hs).1 hp)
 have hht : heightT n t = if n = 0 then 0 else mxU (levO n t) (n - 1) + 1 := rfl
 have hnl := yef t
 have hlen := hs.len
 have hst := HgtI.start hL
 have hlt := fun j (hj : j < n) => ypy hL hj
 have hz : List.replicate n [AV.int .i64 0] = ints (List.replicate n 0) := by simp [ints]
 have hmx : ∀ a b : Int, (if a < b then b else a) = max a b := fun a b => by split <;> omega
 generalize levO n t = L at *
 refine Reads.body (rs := [.tmp 2]) Tryd.func32 rfl Tryd.ntmps32 rfl (by simp) ?_
 generalize hQr : retQ _ _ _ = Qr
 refine AW.seq fun K1 hK1 => ?_
 refine AW.regionK 0 (fun _ => none) [0] [] ?_
 simp only [go_sem, reduceIte, reduceCtorEq, zA, zM, zE, zL, zD, zS, zP, zB, zI, zR, hnl, hlen, yac, yag]
 repeat with_reducible refine cj ?_ ?_
 all_goals try first | omega
 refine hK1 _ _ _ ?_; clear hK1
 refine AW.seq fun K2 hK2 => ?_
 refine AW.regionK 0 (fun _ => none) [0, 3] [] ?_
 simp only [go_sem, reduceIte, reduceCtorEq, zA, zM, zE, zL, zD, zS, zP, zB, zI, zR, hnl, hlen, yac, yag]
 repeat with_reducible refine cj ?_ ?_
 all_goals try first | omega
 refine hK2 _ _ _ ?_; clear hK2
 refine AW.seq fun K3 hK3 => ?_
 refine AW.regionK 0 (fun _ => none) [0, 3, 4] [13] ?_
 simp only [go_sem, reduceIte, reduceCtorEq, zA, zM, zE, zL, zD, zS, zP, zB, zI, zR, hnl, hlen, yac, yag, hz]
 repeat with_reducible refine cj ?_ ?_
 all_goals try first | omega
 refine hK3 _ _ _ ?_; clear hK3
 refine AW.seq fun K4 hK4 => ?_
 refine AW.regionK 0 (fun _ => none) [0, 3, 4, 5] [13] ?_
 simp only [go_sem, reduceIte, reduceCtorEq, zA, zM, zE, zL, zD, zS, zP, zB, zI, zR, hnl, hlen, yac, yag]
 repeat with_reducible refine cj ?_ ?_
 all_goals try first | omega
 refine hK4 _ _ _ ?_; clear hK4
 refine AW.seq fun K5 hK5 => ?_
 refine AW.seq fun K6 hK6 => ?_
 refine AW.regionK 0 (fun _ => none) [0, 3, 4, 5, 6] [13] ?_
 simp only [go_sem, reduceIte, reduceCtorEq, zA, zM, zE, zL, zD, zS, zP, zB, zI, zR, hnl, hlen, yac, yag]
 repeat with_reducible refine cj ?_ ?_
 all_goals try first | omega
 refine hK6 _ _ _ ?_; clear hK6
 refine AW.block ?_
 refine AW.loopE (fun mm ee ss kk => ∃ (r g v : Nat) (o : List Int), n - r = mm ∧ ee = [(0, .rsl 1 (ydf t)), (3, .int .i64 n), (4, .sl ⟨13, g, none⟩ 0 n none), (5, .int .i64 0), (6, .int .i64 (r : Nat))] ∧ ss = [(13, some ⟨g, v, 1, ints o⟩)] ∧ (r ≤ n ∧ HgtI n t L r (fun _ => False) (fun _ _ => False) o)) ?_ ?_
 ·refine ⟨_, 0, ?_, ?_, List.replicate n 0, rfl, ?henv, ?hstore, ?hst⟩
  case henv =>
   repeat' (first | rfl | refine yaa ?_ ?_ | refine yad ?_ ?_ ?_ ?_ | refine yah ?_ | refine yae ?_ | refine yai ?_ | refine yaj ?_ | refine yan ?_ ?_ ?_ | refine yak ?_ ?_ ?_ | refine yal ?_ | refine yaf ?_ ?_ | refine yab ?_ ?_)
   all_goals (first | (simp; done) | omega | (simp; omega))
  case hstore =>
   repeat' (first | rfl | refine yaa ?_ ?_ | refine yad ?_ ?_ ?_ ?_ | refine yah ?_ | refine yae ?_ | refine yai ?_ | refine yaj ?_ | refine yan ?_ ?_ ?_ | refine yak ?_ ?_ ?_ | refine yal ?_ | refine yaf ?_ ?_ | refine yab ?_ ?_)
   all_goals (first | (simp; done) | omega | (simp; omega))
  case hst =>
   exact ⟨by omega, hst⟩
 rintro mm ee ss kk ⟨r, g, v, o, rfl, rfl, rfl, hI⟩
 generalize hQl1 : ybb _ _ = Ql1
 obtain ⟨hr, hI1⟩ := hI
 refine AW.seq fun K7 hK7 => ?_
 refine AW.seq fun K8 hK8 => ?_
 refine AW.regionK 0 (fun _ => none) [0, 3, 4, 5, 6, 16] [13] ?_
 simp only [go_sem, reduceIte, reduceCtorEq, zA, zM, zE, zL, zD, zS, zP, zB, zI, zR, hnl, hlen, yac, yag]
 repeat with_reducible refine cj ?_ ?_
 all_goals try first | omega
 refine hK8 _ _ _ ?_; clear hK8
 refine AW.cond rfl (by simp only [go_sem, reduceIte, reduceCtorEq, zA, zM, zE, zL, zD, zS, zP, zB, zI, zR]) ?_ ?_
 ·intro hb
  try simp only [hB, decide_eq_true_eq, decide_eq_false_iff_not] at hb
  refine AW.skip ?_
  refine hK7 _ _ _ ?_; clear hK7
  refine AW.seq fun K9 hK9 => ?_
  refine AW.block ?_
  refine AW.seq fun K10 hK10 => ?_
  refine AW.regionK 0 (fun _ => none) [0, 3, 4, 5, 6, 7] [13] ?_
  simp only [go_sem, reduceIte, reduceCtorEq, zA, zM, zE, zL, zD, zS, zP, zB, zI, zR, hnl, hlen, yac, yag]
  repeat with_reducible refine cj ?_ ?_
  all_goals try first | omega
  refine hK10 _ _ _ ?_; clear hK10
  refine AW.block ?_
  refine AW.loopE (fun mm ee ss kk => ∃ (i g v : Nat) (o : List Int), n - i = mm ∧ ee = [(0, .rsl 1 (ydf t)), (3, .int .i64 n), (4, .sl ⟨13, g, none⟩ 0 n none), (5, .int .i64 0), (6, .int .i64 (r : Nat)), (7, .int .i64 (i : Nat))] ∧ ss = [(13, some ⟨g, v, 1, ints o⟩)] ∧ (i ≤ n ∧ HgtI n t L r (fun a => a < i) (fun a _ => a < i) o)) ?_ ?_
  ·refine ⟨_, 0, ?_, ?_, ?_, rfl, ?henv, ?hstore, ?hst⟩
   case henv =>
    repeat' (first | rfl | refine yaa ?_ ?_ | refine yad ?_ ?_ ?_ ?_ | refine yah ?_ | refine yae ?_ | refine yai ?_ | refine yaj ?_ | refine yan ?_ ?_ ?_ | refine yak ?_ ?_ ?_ | refine yal ?_ | refine yaf ?_ ?_ | refine yab ?_ ?_)
    all_goals (first | (simp; done) | omega | (simp; omega))
   case hstore =>
    repeat' (first | rfl | refine yaa ?_ ?_ | refine yad ?_ ?_ ?_ ?_ | refine yah ?_ | refine yae ?_ | refine yai ?_ | refine yaj ?_ | refine yan ?_ ?_ ?_ | refine yak ?_ ?_ ?_ | refine yal ?_ | refine yaf ?_ ?_ | refine yab ?_ ?_)
    all_goals (first | (simp; done) | omega | (simp; omega))
   case hst =>
    exact ⟨by omega, hI1.skip (fun a ha => by omega) (fun a b _ _ _ ha => by omega)⟩
  rintro mm ee ss kk ⟨i, g, v, o, rfl, rfl, rfl, hI⟩
  generalize hQl2 : ybb _ _ = Ql2
  obtain ⟨hi, hI2⟩ := hI
  have hol := hI2.len
  refine AW.seq fun K11 hK11 => ?_
  refine AW.seq fun K12 hK12 => ?_
  refine AW.regionK 0 (fun _ => none) [0, 3, 4, 5, 6, 7, 21] [13] ?_
  simp only [go_sem, reduceIte, reduceCtorEq, zA, zM, zE, zL, zD, zS, zP, zB, zI, zR, hnl, hlen, yac, yag]
  repeat with_reducible refine cj ?_ ?_
  all_goals try first | omega
  refine hK12 _ _ _ ?_; clear hK12
  refine AW.cond rfl (by simp only [go_sem, reduceIte, reduceCtorEq, zA, zM, zE, zL, zD, zS, zP, zB, zI, zR]) ?_ ?_
  ·intro hb
   try simp only [hB, decide_eq_true_eq, decide_eq_false_iff_not] at hb
   have hgo := ybg (l := o) (i := i) (by omega)
   have hset := yja o i (max (o.getD i 0) 1)
   have hone := hI2.setOne hL (i := i) (by omega) (vi' := fun a => a < i + 1) (vis' := fun a b => a < i ∨ (a = i ∧ b < 0)) (fun a ha => by omega) (fun a b ha => by omega)
   have hgr := yfm (t := t) (i := i) (by omega)
   have hrw := hs.rowLen (i := i) (by omega)
   refine AW.skip ?_
   refine hK11 _ _ _ ?_; clear hK11
   refine AW.seq fun K13 hK13 => ?_
   refine AW.block ?_
   refine AW.seq fun K14 hK14 => ?_
   refine AW.regionK 0 (fun _ => none) [0, 3, 4, 5, 6, 7] [13] ?_
   simp only [go_sem, reduceIte, reduceCtorEq, zA, zM, zE, zL, zD, zS, zP, zB, zI, zR, hnl, hlen, yac, yag, hol, hgo, hmx, hset]
   repeat with_reducible refine cj ?_ ?_
   all_goals try first | omega
   refine hK14 _ _ _ ?_; clear hK14
   refine AW.seq fun K15 hK15 => ?_
   refine AW.regionK 0 (fun _ => none) [0, 3, 4, 5, 6, 7, 8] [13] ?_
   simp only [go_sem, reduceIte, reduceCtorEq, zA, zM, zE, zL, zD, zS, zP, zB, zI, zR, hnl, hlen, yac, yag]
   repeat with_reducible refine cj ?_ ?_
   all_goals try first | omega
   refine hK15 _ _ _ ?_; clear hK15
   refine AW.block ?_
   refine AW.loopE (fun mm ee ss kk => ∃ (j g v : Nat) (o : List Int), n - j = mm ∧ ee = [(0, .rsl 1 (ydf t)), (3, .int .i64 n), (4, .sl ⟨13, g, none⟩ 0 n none), (5, .int .i64 0), (6, .int .i64 (r : Nat)), (7, .int .i64 (i : Nat)), (8, .int .i64 (j : Nat))] ∧ ss = [(13, some ⟨g, v, 1, ints o⟩)] ∧ (j ≤ n ∧ HgtI n t L r (fun a => a < i + 1) (fun a b => a < i ∨ (a = i ∧ b < j)) o)) ?_ ?_
   ·refine ⟨_, 0, ?_, ?_, ?_, rfl, ?henv, ?hstore, ?hst⟩
    case henv =>
     repeat' (first | rfl | refine yaa ?_ ?_ | refine yad ?_ ?_ ?_ ?_ | refine yah ?_ | refine yae ?_ | refine yai ?_ | refine yaj ?_ | refine yan ?_ ?_ ?_ | refine yak ?_ ?_ ?_ | refine yal ?_ | refine yaf ?_ ?_ | refine yab ?_ ?_)
     all_goals (first | (simp; done) | omega | (simp; omega))
    case hstore =>
     repeat' (first | rfl | refine yaa ?_ ?_ | refine yad ?_ ?_ ?_ ?_ | refine yah ?_ | refine yae ?_ | refine yai ?_ | refine yaj ?_ | refine yan ?_ ?_ ?_ | refine yak ?_ ?_ ?_ | refine yal ?_ | refine yaf ?_ ?_ | refine yab ?_ ?_)
     all_goals (first | (simp; done) | omega | (simp; omega))
    case hst =>
     exact ⟨by omega, hone⟩
   rintro mm ee ss kk ⟨j, g, v, o, rfl, rfl, rfl, hI⟩
   generalize hQl3 : ybb _ _ = Ql3
   obtain ⟨hj, hI3⟩ := hI
   have hol3 := hI3.len
   refine AW.seq fun K16 hK16 => ?_
   refine AW.seq fun K17 hK17 => ?_
   refine AW.regionK 0 (fun _ => none) [0, 3, 4, 5, 6, 7, 8, 34] [13] ?_
   simp only [go_sem, reduceIte, reduceCtorEq, zA, zM, zE, zL, zD, zS, zP, zB, zI, zR, hnl, hlen, yac, yag]
   repeat with_reducible refine cj ?_ ?_
   all_goals try first | omega
   refine hK17 _ _ _ ?_; clear hK17
   refine AW.cond rfl (by simp only [go_sem, reduceIte, reduceCtorEq, zA, zM, zE, zL, zD, zS, zP, zB, zI, zR]) ?_ ?_
   ·intro hb
    try simp only [hB, decide_eq_true_eq, decide_eq_false_iff_not] at hb
    have hgt := ybx (l := rowT t i) (i := j) (by omega)
    have hat : atT t i j = (rowT t i).getD j false := rfl
    rw [← hat] at hgt
    have hgi := ybg (l := o) (i := i) (by omega)
    have hgj := ybg (l := o) (i := j) (by omega)
    have hset2 := yja o j (max (o.getD j 0) (o.getD i 0 + 1))
    have hbi := hI3.le i (by omega)
    have hpi := hI3.pos i (by omega)
    have hli := hlt i (by omega)
    refine AW.skip ?_
    refine hK16 _ _ _ ?_; clear hK16
    refine AW.seq fun K18 hK18 => ?_
    refine AW.block ?_
    refine AW.seq fun K19 hK19 => ?_
    refine AW.regionK 0 (fun _ => none) [0, 3, 4, 5, 6, 7, 8, 43] [13] ?_
    simp only [go_sem, reduceIte, reduceCtorEq, zA, zM, zE, zL, zD, zS, zP, zB, zI, zR, hnl, hlen, yac, yag, hgr, hrw, hgt]
    repeat with_reducible refine cj ?_ ?_
    all_goals try first | omega
    refine hK19 _ _ _ ?_; clear hK19
    refine AW.cond rfl (by simp only [go_sem, reduceIte, reduceCtorEq, zA, zM, zE, zL, zD, zS, zP, zB, zI, zR]) ?_ ?_
    ·intro hb
     try simp only [hB, decide_eq_true_eq, decide_eq_false_iff_not] at hb
     have hput := hI3.put hL (i := i) (j := j) (by omega) (by omega) hb (vis' := fun a b => a < i ∨ (a = i ∧ b < j + 1)) (fun a b ha => by omega)
     obtain ⟨w, hw⟩ : ∃ w, w = o.set j (max (o.getD j 0) (o.getD i 0 + 1)) := ⟨_, rfl⟩
     rw [← hw] at hput hset2
     refine AW.regionD ydz 0 (fun _ => none) [0, 3, 4, 5, 6, 7, 8] [13] ?_
     simp only [go_sem, reduceIte, reduceCtorEq, zA, zM, zE, zL, zD, zS, zP, zB, zI, zR, hnl, hlen, yac, yag, hol3, hgi, hgj, hmx, hset2]
     repeat with_reducible refine cj ?_ ?_
     all_goals try first | omega | exact chk (by kernel_rfl)
     refine hK18 _ _ _ ?_; clear hK18
     refine AW.regionK 0 (fun _ => none) [0, 3, 4, 5, 6, 7, 8] [13] ?_
     simp only [go_sem, reduceIte, reduceCtorEq, zA, zM, zE, zL, zD, zS, zP, zB, zI, zR, hnl, hlen, yac, yag]
     repeat with_reducible refine cj ?_ ?_
     all_goals try first | omega
     rw [← hQl3]
     change Exists _
     refine ⟨_, ?hm, j + 1, ?_, ?_, w, rfl, ?henv, ?hstore, ?hst⟩
     case henv =>
      repeat' (first | rfl | refine yaa ?_ ?_ | refine yad ?_ ?_ ?_ ?_ | refine yah ?_ | refine yae ?_ | refine yai ?_ | refine yaj ?_ | refine yan ?_ ?_ ?_ | refine yak ?_ ?_ ?_ | refine yal ?_ | refine yaf ?_ ?_ | refine yab ?_ ?_)
      all_goals (first | (simp; done) | omega | (simp; omega))
     case hstore =>
      repeat' (first | rfl | refine yaa ?_ ?_ | refine yad ?_ ?_ ?_ ?_ | refine yah ?_ | refine yae ?_ | refine yai ?_ | refine yaj ?_ | refine yan ?_ ?_ ?_ | refine yak ?_ ?_ ?_ | refine yal ?_ | refine yaf ?_ ?_ | refine yab ?_ ?_)
      all_goals (first | rfl | rw [hw])
     case hst =>
      exact ⟨by omega, hput⟩
     case hm => omega
    ·intro hb
     try simp only [hB, decide_eq_true_eq, decide_eq_false_iff_not] at hb
     have hput := hI3.skip (vi' := fun a => a < i + 1) (vis' := fun a b => a < i ∨ (a = i ∧ b < j + 1)) (fun a ha => ha) (fun a b _ _ hab ha => by
      by_cases e : a = i ∧ b = j
      ·obtain ⟨rfl, rfl⟩ := e; rw [hab] at hb; cases hb
      ·omega)
     obtain ⟨w, hw⟩ : ∃ w, w = o := ⟨_, rfl⟩
     rw [← hw] at hput
     refine AW.skip ?_
     refine hK18 _ _ _ ?_; clear hK18
     refine AW.regionK 0 (fun _ => none) [0, 3, 4, 5, 6, 7, 8] [13] ?_
     simp only [go_sem, reduceIte, reduceCtorEq, zA, zM, zE, zL, zD, zS, zP, zB, zI, zR, hnl, hlen, yac, yag]
     repeat with_reducible refine cj ?_ ?_
     all_goals try first | omega
     rw [← hQl3]
     change Exists _
     refine ⟨_, ?hm, j + 1, ?_, ?_, w, rfl, ?henv, ?hstore, ?hst⟩
     case henv =>
      repeat' (first | rfl | refine yaa ?_ ?_ | refine yad ?_ ?_ ?_ ?_ | refine yah ?_ | refine yae ?_ | refine yai ?_ | refine yaj ?_ | refine yan ?_ ?_ ?_ | refine yak ?_ ?_ ?_ | refine yal ?_ | refine yaf ?_ ?_ | refine yab ?_ ?_)
      all_goals (first | (simp; done) | omega | (simp; omega))
     case hstore =>
      repeat' (first | rfl | refine yaa ?_ ?_ | refine yad ?_ ?_ ?_ ?_ | refine yah ?_ | refine yae ?_ | refine yai ?_ | refine yaj ?_ | refine yan ?_ ?_ ?_ | refine yak ?_ ?_ ?_ | refine yal ?_ | refine yaf ?_ ?_ | refine yab ?_ ?_)
      all_goals (first | rfl | rw [hw])
     case hst =>
      exact ⟨by omega, hput⟩
     case hm => omega
   ·intro hb
    try simp only [hB, decide_eq_true_eq, decide_eq_false_iff_not] at hb
    have hj2 : j = n := by omega
    subst hj2
    refine AW.keep [0, 3, 4, 5, 6, 7] [13] ?_
    try simp only [go_sem, reduceIte, reduceCtorEq, zA, zM, zE, zL, zD, zS, zP, zB, zI, zR]
    refine AW.exit ?_
    rw [← hQl3]
    refine hK13 _ _ _ ?_; clear hK13
    refine AW.regionK 0 (fun _ => none) [0, 3, 4, 5, 6, 7] [13] ?_
    simp only [go_sem, reduceIte, reduceCtorEq, zA, zM, zE, zL, zD, zS, zP, zB, zI, zR, hnl, hlen, yac, yag]
    repeat with_reducible refine cj ?_ ?_
    all_goals try first | omega
    rw [← hQl2]
    change Exists _
    refine ⟨_, ?hm, i + 1, ?_, ?_, ?_, rfl, ?henv, ?hstore, ?hst⟩
    case henv =>
     repeat' (first | rfl | refine yaa ?_ ?_ | refine yad ?_ ?_ ?_ ?_ | refine yah ?_ | refine yae ?_ | refine yai ?_ | refine yaj ?_ | refine yan ?_ ?_ ?_ | refine yak ?_ ?_ ?_ | refine yal ?_ | refine yaf ?_ ?_ | refine yab ?_ ?_)
     all_goals (first | (simp; done) | omega | (simp; omega))
    case hstore =>
     repeat' (first | rfl | refine yaa ?_ ?_ | refine yad ?_ ?_ ?_ ?_ | refine yah ?_ | refine yae ?_ | refine yai ?_ | refine yaj ?_ | refine yan ?_ ?_ ?_ | refine yak ?_ ?_ ?_ | refine yal ?_ | refine yaf ?_ ?_ | refine yab ?_ ?_)
     all_goals (first | (simp; done) | omega | (simp; omega))
    case hst =>
     exact ⟨by omega, hI3.skip (fun a ha => ha) (fun a b _ hb2 _ ha => by omega)⟩
    case hm => omega
  ·intro hb
   try simp only [hB, decide_eq_true_eq, decide_eq_false_iff_not] at hb
   have hi2 : i = n := by omega
   subst hi2
   refine AW.keep [0, 3, 4, 5, 6] [13] ?_
   try simp only [go_sem, reduceIte, reduceCtorEq, zA, zM, zE, zL, zD, zS, zP, zB, zI, zR]
   refine AW.exit ?_
   rw [← hQl2]
   refine hK9 _ _ _ ?_; clear hK9
   refine AW.regionK 0 (fun _ => none) [0, 3, 4, 5, 6] [13] ?_
   simp only [go_sem, reduceIte, reduceCtorEq, zA, zM, zE, zL, zD, zS, zP, zB, zI, zR, hnl, hlen, yac, yag]
   repeat with_reducible refine cj ?_ ?_
   all_goals try first | omega
   rw [← hQl1]
   change Exists _
   refine ⟨_, ?hm, r + 1, ?_, ?_, ?_, rfl, ?henv, ?hstore, ?hst⟩
   case henv =>
    repeat' (first | rfl | refine yaa ?_ ?_ | refine yad ?_ ?_ ?_ ?_ | refine yah ?_ | refine yae ?_ | refine yai ?_ | refine yaj ?_ | refine yan ?_ ?_ ?_ | refine yak ?_ ?_ ?_ | refine yal ?_ | refine yaf ?_ ?_ | refine yab ?_ ?_)
    all_goals (first | (simp; done) | omega | (simp; omega))
   case hstore =>
    repeat' (first | rfl | refine yaa ?_ ?_ | refine yad ?_ ?_ ?_ ?_ | refine yah ?_ | refine yae ?_ | refine yai ?_ | refine yaj ?_ | refine yan ?_ ?_ ?_ | refine yak ?_ ?_ ?_ | refine yal ?_ | refine yaf ?_ ?_ | refine yab ?_ ?_)
    all_goals (first | (simp; done) | omega | (simp; omega))
   case hst =>
    exact ⟨by omega, hI2.next hL (fun a ha => ha) (fun a b ha _ => ha)⟩
   case hm => omega
 ·intro hb
  try simp only [hB, decide_eq_true_eq, decide_eq_false_iff_not] at hb
  have hr2 : r = n := by omega
  subst hr2
  have hfin := fun k hk => hI1.last hL (k := k) hk
  have hmb := yr3 (o := o) (n := r) (fun j hj => by have := hfin j hj; have := hL.pos j hj; have := hlt j hj; omega)
  have hmm := yr4 hL.pos hfin
  have hol := hI1.len
  refine AW.keep [3, 4, 5] [13] ?_
  try simp only [go_sem, reduceIte, reduceCtorEq, zA, zM, zE, zL, zD, zS, zP, zB, zI, zR]
  refine AW.exit ?_
  rw [← hQl1]
  refine hK5 _ _ _ ?_; clear hK5
  refine AW.seq fun K20 hK20 => ?_
  refine AW.seq fun K21 hK21 => ?_
  refine AW.regionK 0 (fun _ => none) [3, 4, 5, 9] [13] ?_
  simp only [go_sem, reduceIte, reduceCtorEq, zA, zM, zE, zL, zD, zS, zP, zB, zI, zR, hnl, hlen, yac, yag]
  repeat with_reducible refine cj ?_ ?_
  all_goals try first | omega
  refine hK21 _ _ _ ?_; clear hK21
  refine AW.block ?_
  refine AW.loopE (fun mm ee ss kk => ∃ (j g v : Nat), r - j = mm ∧ ee = [(3, .int .i64 r), (4, .sl ⟨13, g, none⟩ 0 r none), (5, .int .i64 (mxF o j)), (9, .int .i64 (j : Nat))] ∧ ss = [(13, some ⟨g, v, 1, ints o⟩)] ∧ (j ≤ r)) ?_ ?_
  ·refine ⟨_, 0, ?_, ?_, rfl, ?henv, ?hstore, ?hst⟩
   case henv =>
    repeat' (first | rfl | refine yaa ?_ ?_ | refine yad ?_ ?_ ?_ ?_ | refine yah ?_ | refine yae ?_ | refine yai ?_ | refine yaj ?_ | refine yan ?_ ?_ ?_ | refine yak ?_ ?_ ?_ | refine yal ?_ | refine yaf ?_ ?_ | refine yab ?_ ?_)
    all_goals (first | (simp; done) | omega | (simp; omega))
   case hstore =>
    repeat' (first | rfl | refine yaa ?_ ?_ | refine yad ?_ ?_ ?_ ?_ | refine yah ?_ | refine yae ?_ | refine yai ?_ | refine yaj ?_ | refine yan ?_ ?_ ?_ | refine yak ?_ ?_ ?_ | refine yal ?_ | refine yaf ?_ ?_ | refine yab ?_ ?_)
    all_goals (first | (simp; done) | omega | (simp; omega))
   case hst =>
    first | trivial | omega | (simp; done) | (simp; omega)
  rintro mm ee ss kk ⟨j, g, v, rfl, rfl, rfl, hI⟩
  generalize hQl4 : ybb _ _ = Ql4
  refine AW.seq fun K22 hK22 => ?_
  refine AW.seq fun K23 hK23 => ?_
  refine AW.regionK 0 (fun _ => none) [3, 4, 5, 9, 59] [13] ?_
  simp only [go_sem, reduceIte, reduceCtorEq, zA, zM, zE, zL, zD, zS, zP, zB, zI, zR, hnl, hlen, yac, yag]
  repeat with_reducible refine cj ?_ ?_
  all_goals try first | omega
  refine hK23 _ _ _ ?_; clear hK23
  refine AW.cond rfl (by simp only [go_sem, reduceIte, reduceCtorEq, zA, zM, zE, zL, zD, zS, zP, zB, zI, zR]) ?_ ?_
  ·intro hb
   try simp only [hB, decide_eq_true_eq, decide_eq_false_iff_not] at hb
   have hgk := ybg (l := o) (i := j) (by omega)
   have hsu : mxF o (j + 1) = max (mxF o j) (o.getD j 0) := rfl
   refine AW.skip ?_
   refine hK22 _ _ _ ?_; clear hK22
   refine AW.seq fun K24 hK24 => ?_
   refine AW.block ?_
   refine AW.regionK 0 (fun _ => none) [3, 4, 5, 9] [13] ?_
   simp only [go_sem, reduceIte, reduceCtorEq, zA, zM, zE, zL, zD, zS, zP, zB, zI, zR, hnl, hlen, yac, yag, hol, hgk, hmx]
   repeat with_reducible refine cj ?_ ?_
   all_goals try first | omega
   refine hK24 _ _ _ ?_; clear hK24
   refine AW.regionK 0 (fun _ => none) [3, 4, 5, 9] [13] ?_
   simp only [go_sem, reduceIte, reduceCtorEq, zA, zM, zE, zL, zD, zS, zP, zB, zI, zR, hnl, hlen, yac, yag]
   repeat with_reducible refine cj ?_ ?_
   all_goals try first | omega
   rw [← hQl4]
   change Exists _
   refine ⟨_, ?hm, j + 1, ?_, ?_, rfl, ?henv, ?hstore, ?hst⟩
   case henv =>
    repeat' (first | rfl | refine yaa ?_ ?_ | refine yad ?_ ?_ ?_ ?_ | refine yah ?_ | refine yae ?_ | refine yai ?_ | refine yaj ?_ | refine yan ?_ ?_ ?_ | refine yak ?_ ?_ ?_ | refine yal ?_ | refine yaf ?_ ?_ | refine yab ?_ ?_)
    all_goals (first | (rw [hsu]; done) | (simp; done) | omega)
   case hstore =>
    repeat' (first | rfl | refine yaa ?_ ?_ | refine yad ?_ ?_ ?_ ?_ | refine yah ?_ | refine yae ?_ | refine yai ?_ | refine yaj ?_ | refine yan ?_ ?_ ?_ | refine yak ?_ ?_ ?_ | refine yal ?_ | refine yaf ?_ ?_ | refine yab ?_ ?_)
    all_goals (first | (simp; done) | omega | (simp; omega))
   case hst =>
    first | trivial | omega | (simp; done) | (simp; omega)
   case hm => omega
  ·intro hb
   try simp only [hB, decide_eq_true_eq, decide_eq_false_iff_not] at hb
   have hj2 : j = r := by omega
   subst hj2
   refine AW.keep [5] [] ?_
   try simp only [go_sem, reduceIte, reduceCtorEq, zA, zM, zE, zL, zD, zS, zP, zB, zI, zR]
   refine AW.exit ?_
   rw [← hQl4]
   refine hK20 _ _ _ ?_; clear hK20
   refine AW.seq fun K25 hK25 => ?_
   refine AW.regionK 0 (fun _ => none) [2] [] ?_
   simp only [go_sem, reduceIte, reduceCtorEq, zA, zM, zE, zL, zD, zS, zP, zB, zI, zR, hnl, hlen, yac, yag]
   repeat with_reducible refine cj ?_ ?_
   all_goals try first | omega
   refine hK25 _ _ _ ?_; clear hK25
   refine AW.ret ?_
   rw [← hQr]
   simp only [go_sem, reduceIte, reduceCtorEq, zA, zM, zE, zL, zD, zS, zP, zB, zI, zR, hnl, hlen, yac, yag]
   exact Wk.of_eq (by rw [hht]; by_cases h0 : j = 0; (subst h0; rfl); rw [if_neg h0, ← hmm (j - 1) (by omega), show j - 1 + 1 = j by omega])
end Go.Proofs.W

/- Antichains, chains and matchings of an order. -/
namespace Go.AM
/-- An antichain leaves out an end of each pair of a matching. -/
theorem anti_le {n : Nat} {t : List (List Bool)} (hp : IsPo n t) {L R : List Int} (hM : Mch n n (nbOf n (yas t n)) L R) (hE : ∀ e ∈ yas t n, yb4 n n e = true) (X : Nat → Bool) (hX : ∀ i j, i < n → j < n → X i = true → X j = true → atT t i j = false) : cnt X n + cnt (pL L) n ≤ n := by
  have hstep : ∀ i, i < n → 0 ≤ gi L i → (gi L i).toNat < n ∧ atT t i (gi L i).toNat = true := fun i hi h0 => by
    have h1 := (yct hE i _).1 (hM.hE i h0)
    obtain ⟨a, b, e, ha, hb, hab⟩ := pairsT_mem.1 h1
    simp only [Prod.mk.injEq] at e
    have e1 : i = a := by omega
    have e2 : (gi L i).toNat = b := by omega
    rw [e1] at *
    exact ⟨by omega, by rw [e2]; exact hab⟩
  let D : Nat → Bool := fun i => X i || (List.range n).any fun x => X x && atT t x i
  have hD : ∀ i, D i = true ↔ X i = true ∨ ∃ x, x < n ∧ X x = true ∧ atT t x i = true := fun i => by
    simp only [D, Bool.or_eq_true, List.any_eq_true, List.mem_range, Bool.and_eq_true]
  have h := yfp (p := pL L) (q := fun i => !X i) (n := n) (m := n) (fun i => if D i = true then (gi L i).toNat else i) (fun i hi hpi => by
    simp only [pL, decide_eq_true_eq] at hpi
    obtain ⟨h1, h2⟩ := hstep i hi hpi
    by_cases hd : D i = true
    · simp only [hd, if_true]
      refine ⟨h1, ?_⟩
      cases hx : X (gi L i).toNat with
      | false => rfl
      | true =>
        exfalso
        rcases (hD i).1 hd with h3 | ⟨x, h3, h4, h5⟩
        · have := hX i _ hi h1 h3 hx; rw [h2] at this; cases this
        · have := hX x _ h3 h1 h4 hx; rw [hp.trans x i _ h3 hi h1 h5 h2] at this; cases this
    · simp only [hd]
      refine ⟨by simpa using hi, ?_⟩
      have hxi : X i = false := by
        cases hx : X i with
        | false => rfl
        | true => exact absurd ((hD i).2 (.inl hx)) hd
      simp [hxi]) (fun i j hi hj hpi hpj e => by
    simp only [pL, decide_eq_true_eq] at hpi hpj
    obtain ⟨h1, h2⟩ := hstep i hi hpi
    obtain ⟨h3, h4⟩ := hstep j hj hpj
    have up : ∀ a b, a < n → b < n → D a = true → atT t a b = true → D b = true := fun a b ha hb hda hab => by
      rcases (hD a).1 hda with h5 | ⟨x, h5, h6, h7⟩
      · exact (hD b).2 (.inr ⟨a, ha, h5, hab⟩)
      · exact (hD b).2 (.inr ⟨x, h5, h6, hp.trans x a b h5 ha hb h7 hab⟩)
    by_cases hdi : D i = true <;> by_cases hdj : D j = true
    · simp only [hdi, hdj, if_true] at e
      have k1 := (hM.hC i (gi L i).toNat).1 (by omega)
      have k2 := (hM.hC j (gi L i).toNat).1 (by omega)
      omega
    · simp only [hdi, hdj, if_true] at e
      simp at e
      exfalso
      exact hdj (by rw [← e]; exact up i _ hi h1 hdi h2)
    · simp only [hdi, hdj, if_true] at e
      simp at e
      exfalso
      exact hdi (by rw [e]; exact up j _ hj h3 hdj h4)
    · simp only [hdi, hdj] at e
      simpa using e)
  have := ymj X n
  omega
end Go.AM

namespace Go.Proofs.W
open Go.AM Go
set_option maxRecDepth 100000
set_option maxHeartbeats 2000000
def antI (A B : List Bool) (j : Nat) : List Int := ((List.range j).filter fun i => !A.getD i false && !B.getD i false).map fun (i : Nat) => (i : Int)
theorem antI_succ (A B : List Bool) (j : Nat) : antI A B (j + 1) = if (!A.getD j false && !B.getD j false) = true then antI A B j ++ [(j : Int)] else antI A B j := by
 unfold antI
 rw [List.range_succ, List.filter_append, List.map_append]
 by_cases h : (!A.getD j false && !B.getD j false) = true
 ·rw [if_pos h]; simp only [List.filter_cons, h, if_true, List.filter_nil, List.map_cons, List.map_nil]
 ·rw [if_neg h]; simp only [List.filter_cons, h, if_false, List.filter_nil, List.map_nil, List.append_nil]; simp
theorem yr5 (A B : List Bool) (j : Nat) : (antI A B j).length ≤ j := by
 unfold antI
 rw [List.length_map]
 have := List.length_filter_le (fun i => !A.getD i false && !B.getD i false) (List.range j)
 simpa using this
theorem yqh (A B : List Bool) (j : Nat) (x : Int) : x ∈ antI A B j ↔ ∃ i : Nat, x = i ∧ i < j ∧ A.getD i false = false ∧ B.getD i false = false := by
 simp only [antI, List.mem_map, List.mem_filter, List.mem_range, Bool.and_eq_true, Bool.not_eq_true']
 constructor
 ·rintro ⟨i, ⟨h1, h2⟩, rfl⟩; exact ⟨i, rfl, h1, h2⟩
 ·rintro ⟨i, rfl, h1, h2⟩; exact ⟨i, ⟨h1, h2⟩, rfl⟩
def antF (n : Nat) (t : List (List Bool)) : List Bool := rowL n (antI (M.cvL n n (yas t n)) (M.cvR n n (yas t n)) n)
theorem yr6 (es : List (List AV)) (h : Reads Tryd.prog 46 false [.agg [.rsl 2 es]] (.bool false)) : Reads Tryd.prog 29 false [.agg [.rsl 2 es]] (.tup [.agg [.int .i64 0, .nilsl], .int .i64 1]) := by
 have he := yov es h
 refine Reads.body (rs := [.cell 2 27, .tmp 3]) Tryd.func29 rfl Tryd.ntmps29 rfl (by simp) ?_
 generalize hQr : retQ _ _ _ = Qr
 refine AW.seq fun K1 hK1 => ?_
 refine AW.regionK 0 (fun _ => none) [1, 2] [1, 2] ?_
 simp only [go_sem, reduceIte, reduceCtorEq, zA, zM, zE, zL, zD, zS, zP, zB, zI, zR]
 repeat with_reducible refine cj ?_ ?_
 all_goals try first | omega
 refine hK1 _ _ _ ?_; clear hK1
 refine AW.seq fun K2 hK2 => ?_
 refine AW.regionK 0 (fun ii => if ii = 1 then some (.reads false (.tup [.nilsl, .int .i64 1])) else none) [1, 2, 4, 5] [1, 2] ?_
 simp only [go_sem, reduceIte, reduceCtorEq, zA, zM, zE, zL, zD, zS, zP, zB, zI, zR]
 repeat with_reducible refine cj ?_ ?_
 all_goals try first | (exact he) | omega | exact ent (by kernel_rfl)
 refine hK2 _ _ _ ?_; clear hK2
 refine AW.seq fun K3 hK3 => ?_
 refine AW.seq fun K4 hK4 => ?_
 refine AW.regionK 0 (fun _ => none) [1, 2, 4, 5, 17] [1, 2] ?_
 simp only [go_sem, reduceIte, reduceCtorEq, zA, zM, zE, zL, zD, zS, zP, zB, zI, zR]
 repeat with_reducible refine cj ?_ ?_
 all_goals try first | omega
 refine hK4 _ _ _ ?_; clear hK4
 refine AW.cond rfl (by simp only [go_sem, reduceIte, reduceCtorEq, zA, zM, zE, zL, zD, zS, zP, zB, zI, zR]) ?_ ?_
 ·intro hb
  try simp only [hB, decide_eq_true_eq, decide_eq_false_iff_not] at hb
  refine AW.seq fun K5 hK5 => ?_
  refine AW.regionK 0 (fun _ => none) [2, 3] [2] ?_
  simp only [go_sem, reduceIte, reduceCtorEq, zA, zM, zE, zL, zD, zS, zP, zB, zI, zR]
  repeat with_reducible refine cj ?_ ?_
  all_goals try first | omega
  refine hK5 _ _ _ ?_; clear hK5
  refine AW.ret ?_
  rw [← hQr]
  simp only [go_sem, reduceIte, reduceCtorEq, zA, zM, zE, zL, zD, zS, zP, zB, zI, zR]
  exact Wk.refl _
 ·intro hb
  try simp only [hB, decide_eq_true_eq, decide_eq_false_iff_not] at hb
  exfalso; simp at hb
theorem antic_b (n : Nat) (t : List (List Bool)) (hs : Sq n t) (hn : n ≤ 512) (hp : poB n t = true) (hbig : ¬ (yas t n).length ≤ 2000) : Reads Tryd.prog 29 false [relB t] (.tup [.agg [.int .i64 0, .nilsl], .int .i64 9]) := by
 have he := yii n t hs hn hp
 rw [if_neg hbig] at he
 unfold relB at *
 refine Reads.body (rs := [.cell 2 27, .tmp 3]) Tryd.func29 rfl Tryd.ntmps29 rfl (by simp) ?_
 generalize hQr : retQ _ _ _ = Qr
 refine AW.seq fun K1 hK1 => ?_
 refine AW.regionK 0 (fun _ => none) [1, 2] [1, 2] ?_
 simp only [go_sem, reduceIte, reduceCtorEq, zA, zM, zE, zL, zD, zS, zP, zB, zI, zR]
 repeat with_reducible refine cj ?_ ?_
 all_goals try first | omega
 refine hK1 _ _ _ ?_; clear hK1
 refine AW.seq fun K2 hK2 => ?_
 refine AW.regionK 0 (fun ii => if ii = 1 then some (.reads false (.tup [.nilsl, .int .i64 9])) else none) [1, 2, 4, 5] [1, 2] ?_
 simp only [go_sem, reduceIte, reduceCtorEq, zA, zM, zE, zL, zD, zS, zP, zB, zI, zR]
 repeat with_reducible refine cj ?_ ?_
 all_goals try first | (exact he) | omega | exact ent (by kernel_rfl)
 refine hK2 _ _ _ ?_; clear hK2
 refine AW.seq fun K3 hK3 => ?_
 refine AW.seq fun K4 hK4 => ?_
 refine AW.regionK 0 (fun _ => none) [1, 2, 4, 5, 17] [1, 2] ?_
 simp only [go_sem, reduceIte, reduceCtorEq, zA, zM, zE, zL, zD, zS, zP, zB, zI, zR]
 repeat with_reducible refine cj ?_ ?_
 all_goals try first | omega
 refine hK4 _ _ _ ?_; clear hK4
 refine AW.cond rfl (by simp only [go_sem, reduceIte, reduceCtorEq, zA, zM, zE, zL, zD, zS, zP, zB, zI, zR]) ?_ ?_
 ·intro hb
  try simp only [hB, decide_eq_true_eq, decide_eq_false_iff_not] at hb
  refine AW.seq fun K5 hK5 => ?_
  refine AW.regionK 0 (fun _ => none) [2, 3] [2] ?_
  simp only [go_sem, reduceIte, reduceCtorEq, zA, zM, zE, zL, zD, zS, zP, zB, zI, zR]
  repeat with_reducible refine cj ?_ ?_
  all_goals try first | omega
  refine hK5 _ _ _ ?_; clear hK5
  refine AW.ret ?_
  rw [← hQr]
  simp only [go_sem, reduceIte, reduceCtorEq, zA, zM, zE, zL, zD, zS, zP, zB, zI, zR]
  exact Wk.refl _
 ·intro hb
  try simp only [hB, decide_eq_true_eq, decide_eq_false_iff_not] at hb
  exfalso; simp at hb
theorem antic_g (n : Nat) (t : List (List Bool)) (hs : Sq n t) (hn : n ≤ 512) (hp : poB n t = true) (hl : (yas t n).length ≤ 2000) : Reads Tryd.prog 29 false [relB t] (.tup [.agg [.int .i64 n, .rsl 1 (words (setW (antF n t) n))], .int .i64 0]) := by
 have he := yii n t hs hn hp
 rw [if_pos hl] at he
 have hg := gdT hn hl
 have hco := M.cover_good hg
 have htl : (tabR t).length = n := by rw [yb2, hs.len]
 have hA : (M.cvL n n (yas t n)).length = n := yjf _ _
 have hB2 : (M.cvR n n (yas t n)).length = n := yjf _ _
 have hh1 := yrk (M.cvL n n (yas t n)) (by omega)
 have hh2 := yrk (M.cvR n n (yas t n)) (by omega)
 unfold rowB at hh1 hh2
 rw [hA] at hh1
 rw [hB2] at hh2
 unfold antF
 generalize M.cvL n n (yas t n) = A at *
 generalize M.cvR n n (yas t n) = B at *
 generalize hWA : setW A n = WA at *
 generalize hWB : setW B n = WB at *
 unfold relB at *
 refine Reads.body (rs := [.cell 2 27, .tmp 3]) Tryd.func29 rfl Tryd.ntmps29 rfl (by simp) ?_
 generalize hQr : retQ _ _ _ = Qr
 refine AW.seq fun K1 hK1 => ?_
 refine AW.regionK 0 (fun _ => none) [1, 2] [1, 2] ?_
 simp only [go_sem, reduceIte, reduceCtorEq, zA, zM, zE, zL, zD, zS, zP, zB, zI, zR, htl, yac]
 repeat with_reducible refine cj ?_ ?_
 all_goals try first | omega
 refine hK1 _ _ _ ?_; clear hK1
 refine AW.seq fun K2 hK2 => ?_
 refine AW.regionK 0 (fun ii => if ii = 1 then some (.reads false (.tup [.rsl 2 ((yas t n).map ya8), .int .i64 0])) else none) [1, 2, 4, 5] [1, 2] ?_
 simp only [go_sem, reduceIte, reduceCtorEq, zA, zM, zE, zL, zD, zS, zP, zB, zI, zR, htl, yac]
 repeat with_reducible refine cj ?_ ?_
 all_goals try first | (exact he) | omega | exact ent (by kernel_rfl)
 refine hK2 _ _ _ ?_; clear hK2
 refine AW.seq fun K3 hK3 => ?_
 refine AW.seq fun K4 hK4 => ?_
 refine AW.regionK 0 (fun _ => none) [1, 2, 4, 5, 17] [1, 2] ?_
 simp only [go_sem, reduceIte, reduceCtorEq, zA, zM, zE, zL, zD, zS, zP, zB, zI, zR, htl, yac]
 repeat with_reducible refine cj ?_ ?_
 all_goals try first | omega
 refine hK4 _ _ _ ?_; clear hK4
 refine AW.cond rfl (by simp only [go_sem, reduceIte, reduceCtorEq, zA, zM, zE, zL, zD, zS, zP, zB, zI, zR]) ?_ ?_
 ·intro hb
  try simp only [hB, decide_eq_true_eq, decide_eq_false_iff_not] at hb
  exfalso; simp at hb
 ·intro hb
  try simp only [hB, decide_eq_true_eq, decide_eq_false_iff_not] at hb
  refine AW.skip ?_
  refine hK3 _ _ _ ?_; clear hK3
  refine AW.seq fun K5 hK5 => ?_
  refine AW.regionK 0 (fun _ => none) [2, 4, 6] [2] ?_
  simp only [go_sem, reduceIte, reduceCtorEq, zA, zM, zE, zL, zD, zS, zP, zB, zI, zR, htl, yac]
  repeat with_reducible refine cj ?_ ?_
  all_goals try first | omega
  refine hK5 _ _ _ ?_; clear hK5
  refine AW.seq fun K6 hK6 => ?_
  refine AW.regionK 0 (fun ii => if ii = 3 then some (.reads false (.tup [.agg [.int .i64 n, .rsl 1 (words WA)], .agg [.int .i64 n, .rsl 1 (words WB)], .int .i64 0])) else none) [2, 5, 6, 7, 8] [2, 7, 8] ?_
  simp only [go_sem, reduceIte, reduceCtorEq, zA, zM, zE, zL, zD, zS, zP, zB, zI, zR, htl, yac]
  repeat with_reducible refine cj ?_ ?_
  all_goals try first | (exact hco) | omega | exact ent (by kernel_rfl)
  refine hK6 _ _ _ ?_; clear hK6
  refine AW.seq fun K7 hK7 => ?_
  refine AW.seq fun K8 hK8 => ?_
  refine AW.regionK 0 (fun _ => none) [2, 5, 6, 7, 8, 32] [2, 7, 8] ?_
  simp only [go_sem, reduceIte, reduceCtorEq, zA, zM, zE, zL, zD, zS, zP, zB, zI, zR, htl, yac]
  repeat with_reducible refine cj ?_ ?_
  all_goals try first | omega
  refine hK8 _ _ _ ?_; clear hK8
  refine AW.cond rfl (by simp only [go_sem, reduceIte, reduceCtorEq, zA, zM, zE, zL, zD, zS, zP, zB, zI, zR]) ?_ ?_
  ·intro hb
   try simp only [hB, decide_eq_true_eq, decide_eq_false_iff_not] at hb
   exfalso; simp at hb
  ·intro hb
   try simp only [hB, decide_eq_true_eq, decide_eq_false_iff_not] at hb
   refine AW.skip ?_
   refine hK7 _ _ _ ?_; clear hK7
   refine AW.seq fun K9 hK9 => ?_
   refine AW.regionK 0 (fun _ => none) [2, 6, 7, 8, 9] [2, 7, 8] ?_
   simp only [go_sem, reduceIte, reduceCtorEq, zA, zM, zE, zL, zD, zS, zP, zB, zI, zR, htl, yac]
   repeat with_reducible refine cj ?_ ?_
   all_goals try first | omega
   refine hK9 _ _ _ ?_; clear hK9
   refine AW.seq fun K10 hK10 => ?_
   refine AW.seq fun K11 hK11 => ?_
   refine AW.regionK 0 (fun _ => none) [2, 6, 7, 8, 9, 35, 36] [2, 7, 8] ?_
   simp only [go_sem, reduceIte, reduceCtorEq, zA, zM, zE, zL, zD, zS, zP, zB, zI, zR, htl, yac]
   repeat with_reducible refine cj ?_ ?_
   all_goals try first | omega
   refine hK11 _ _ _ ?_; clear hK11
   refine AW.block ?_
   refine AW.nilOwn 9 200 1 (by simp only [go_sem, reduceIte, zE]) ?_
   refine AW.keep [2, 6, 7, 8, 9, 35, 36] [2, 7, 8, 200] ?_
   simp only [go_sem, reduceIte, zE]
   refine AW.loopE (fun mm ee ss kk => ∃ (j g2 v2 g7 v7 g8 v8 g v : Nat), n - j = mm ∧ ee = [(2, .ptr ⟨2, g2, none⟩ 0 0), (6, .int .i64 n), (7, .ptr ⟨7, g7, none⟩ 0 0), (8, .ptr ⟨8, g8, none⟩ 0 0), (9, .sl ⟨200, g, none⟩ 0 (antI A B j).length none), (35, .int .i64 n), (36, .int .i64 (j : Nat))] ∧ ss = [(2, some ⟨g2, v2, 2, [[.int .i64 0, .nilsl]]⟩), (7, some ⟨g7, v7, 2, [[.int .i64 n, .rsl 1 (words WA)]]⟩), (8, some ⟨g8, v8, 2, [[.int .i64 n, .rsl 1 (words WB)]]⟩), (200, some ⟨g, v, 1, ints (antI A B j)⟩)] ∧ (j ≤ n)) ?_ ?_
   ·refine ⟨_, 0, ?_, ?_, ?_, ?_, ?_, ?_, ?_, ?_, rfl, ?henv, ?hstore, ?hst⟩
    case henv =>
     repeat' (first | rfl | refine yaa ?_ ?_ | refine yad ?_ ?_ ?_ ?_ | refine yah ?_ | refine yae ?_ | refine yai ?_ | refine yaj ?_ | refine yan ?_ ?_ ?_ | refine yak ?_ ?_ ?_ | refine yal ?_ | refine yaf ?_ ?_ | refine yab ?_ ?_)
     all_goals (first | (simp; done) | omega | (simp; omega))
    case hstore =>
     repeat' (first | rfl | refine yaa ?_ ?_ | refine yad ?_ ?_ ?_ ?_ | refine yah ?_ | refine yae ?_ | refine yai ?_ | refine yaj ?_ | refine yan ?_ ?_ ?_ | refine yak ?_ ?_ ?_ | refine yal ?_ | refine yaf ?_ ?_ | refine yab ?_ ?_)
     all_goals (first | (simp; done) | omega | (simp; omega))
    case hst =>
     first | trivial | omega | (simp; done) | (simp; omega)
   rintro mm ee ss kk ⟨j, g2, v2, g7, v7, g8, v8, g, v, rfl, rfl, rfl, hI⟩
   generalize hQl1 : ybb _ _ = Ql1
   refine AW.seq fun K12 hK12 => ?_
   refine AW.regionK 0 (fun _ => none) [2, 6, 7, 8, 9, 35, 36, 37] [2, 7, 8, 200] ?_
   simp only [go_sem, reduceIte, reduceCtorEq, zA, zM, zE, zL, zD, zS, zP, zB, zI, zR, htl, yac]
   repeat with_reducible refine cj ?_ ?_
   all_goals try first | omega
   refine hK12 _ _ _ ?_; clear hK12
   refine AW.seq fun K13 hK13 => ?_
   refine AW.cond rfl (by simp only [go_sem, reduceIte, reduceCtorEq, zA, zM, zE, zL, zD, zS, zP, zB, zI, zR]) ?_ ?_
   ·intro hb
    try simp only [hB, decide_eq_true_eq, decide_eq_false_iff_not] at hb
    have hx1 := hh1 (j : Int)
    have hx2 := hh2 (j : Int)
    rw [decide_eq_true (by omega : (0 : Int) ≤ j), decide_eq_true (by omega : (j : Int) < (n : Int)), Int.toNat_natCast, Bool.true_and, Bool.true_and] at hx1 hx2
    have hsu := antI_succ A B j
    have hle := yr5 A B j
    have htk : (ints (antI A B j)).take (antI A B j).length = ints (antI A B j) := List.take_of_length_le (by rw [yac]; exact Nat.le_refl _)
    have hsn : ints (antI A B j) ++ [[.int .i64 (j : Int)]] = ints (antI A B j ++ [(j : Int)]) := by simp [ints]
    generalize hP : antI A B j = P at *
    refine AW.skip ?_
    refine hK13 _ _ _ ?_; clear hK13
    refine AW.seq fun K14 hK14 => ?_
    refine AW.block ?_
    refine AW.seq fun K15 hK15 => ?_
    refine AW.regionK 0 (fun _ => none) [2, 6, 7, 8, 9, 10, 35, 36] [2, 7, 8, 200] ?_
    simp only [go_sem, reduceIte, reduceCtorEq, zA, zM, zE, zL, zD, zS, zP, zB, zI, zR, htl, yac]
    repeat with_reducible refine cj ?_ ?_
    all_goals try first | omega
    refine hK15 _ _ _ ?_; clear hK15
    refine AW.seq fun K16 hK16 => ?_
    refine AW.regionK 0 (fun ii => if ii = 2 then some (.reads false (.bool (A.getD j false))) else if ii = 7 then some (.reads false (.bool (B.getD j false))) else none) [2, 6, 7, 8, 9, 10, 35, 36, 48] [2, 7, 8, 200] ?_
    simp only [go_sem, reduceIte, reduceCtorEq, zA, zM, zE, zL, zD, zS, zP, zB, zI, zR, htl, yac]
    repeat with_reducible refine cj ?_ ?_
    all_goals try first | (first | exact hx1 | exact hx2 | (intro hh; exact ⟨hh, hx2⟩)) | (intros; (repeat' apply And.intro) <;> first | assumption | (first | exact hx1 | exact hx2 | (intro hh; exact ⟨hh, hx2⟩))) | omega | exact ent (by kernel_rfl) | (intro hgd; exact absurd hgd (by decide)) | rfl | (simp only [go_sem, reduceIte, reduceCtorEq, zA, zM, zE, zL, zD, zS, zP, zB, zI, zR, htl, yac]; done) | (intro _hgd; simp_all [go_sem]; done)
    refine hK16 _ _ _ ?_; clear hK16
    refine AW.cond rfl (by simp only [go_sem, reduceIte, reduceCtorEq, zA, zM, zE, zL, zD, zS, zP, zB, zI, zR]) ?_ ?_
    ·intro hb
     try simp only [hB, decide_eq_true_eq, decide_eq_false_iff_not] at hb
     rw [if_pos (by simpa using hb)] at hsu
     refine AW.regionK 0 (fun _ => none) [2, 6, 7, 8, 9, 35, 36] [2, 7, 8, 200] ?_
     simp only [go_sem, reduceIte, reduceCtorEq, zA, zM, zE, zL, zD, zS, zP, zB, zI, zR, htl, yac, htk, hsn]
     repeat with_reducible refine cj ?_ ?_
     all_goals try first | omega | (simp [scP, ybk]; done) | exact ybe _ | exact ybh _ | exact ybf _
     refine hK14 _ _ _ ?_; clear hK14
     refine AW.regionK 0 (fun _ => none) [2, 6, 7, 8, 9, 35, 36] [2, 7, 8, 200] ?_
     simp only [go_sem, reduceIte, reduceCtorEq, zA, zM, zE, zL, zD, zS, zP, zB, zI, zR, htl, yac]
     repeat with_reducible refine cj ?_ ?_
     all_goals try first | omega
     rw [← hQl1]
     change Exists _
     refine ⟨_, ?hm, j + 1, ?_, ?_, ?_, ?_, ?_, ?_, ?_, ?_, rfl, ?henv, ?hstore, ?hst⟩
     case henv =>
      repeat' (first | rfl | refine yaa ?_ ?_ | refine yad ?_ ?_ ?_ ?_ | refine yah ?_ | refine yae ?_ | refine yai ?_ | refine yaj ?_ | refine yan ?_ ?_ ?_ | refine yak ?_ ?_ ?_ | refine yal ?_ | refine yaf ?_ ?_ | refine yab ?_ ?_)
      all_goals (first | (rw [hsu]; done) | (rw [hsu]; simp; done) | omega | (simp; done))
     case hstore =>
      repeat' (first | rfl | refine yaa ?_ ?_ | refine yad ?_ ?_ ?_ ?_ | refine yah ?_ | refine yae ?_ | refine yai ?_ | refine yaj ?_ | refine yan ?_ ?_ ?_ | refine yak ?_ ?_ ?_ | refine yal ?_ | refine yaf ?_ ?_ | refine yab ?_ ?_)
      all_goals (rw [hsu])
     case hst =>
      first | trivial | omega | (simp; done) | (simp; omega)
     case hm => omega
    ·intro hb
     try simp only [hB, decide_eq_true_eq, decide_eq_false_iff_not] at hb
     rw [if_neg (fun hh => by simp only [Bool.and_eq_true, Bool.not_eq_true'] at hh; rcases hb with hb | hb; exact absurd (hb.symm.trans hh.1) (by simp); exact absurd (hb.symm.trans hh.2) (by simp))] at hsu
     refine AW.skip ?_
     refine hK14 _ _ _ ?_; clear hK14
     refine AW.regionK 0 (fun _ => none) [2, 6, 7, 8, 9, 35, 36] [2, 7, 8, 200] ?_
     simp only [go_sem, reduceIte, reduceCtorEq, zA, zM, zE, zL, zD, zS, zP, zB, zI, zR, htl, yac]
     repeat with_reducible refine cj ?_ ?_
     all_goals try first | omega
     rw [← hQl1]
     change Exists _
     refine ⟨_, ?hm, j + 1, ?_, ?_, ?_, ?_, ?_, ?_, ?_, ?_, rfl, ?henv, ?hstore, ?hst⟩
     case henv =>
      repeat' (first | rfl | refine yaa ?_ ?_ | refine yad ?_ ?_ ?_ ?_ | refine yah ?_ | refine yae ?_ | refine yai ?_ | refine yaj ?_ | refine yan ?_ ?_ ?_ | refine yak ?_ ?_ ?_ | refine yal ?_ | refine yaf ?_ ?_ | refine yab ?_ ?_)
      all_goals (first | (rw [hsu]; done) | (rw [hsu]; simp; done) | omega | (simp; done))
     case hstore =>
      repeat' (first | rfl | refine yaa ?_ ?_ | refine yad ?_ ?_ ?_ ?_ | refine yah ?_ | refine yae ?_ | refine yai ?_ | refine yaj ?_ | refine yan ?_ ?_ ?_ | refine yak ?_ ?_ ?_ | refine yal ?_ | refine yaf ?_ ?_ | refine yab ?_ ?_)
      all_goals (rw [hsu])
     case hst =>
      first | trivial | omega | (simp; done) | (simp; omega)
     case hm => omega
   ·intro hb
    try simp only [hB, decide_eq_true_eq, decide_eq_false_iff_not] at hb
    have hj : n = j := by omega
    subst hj
    have htk : (ints (antI A B n)).take (antI A B n).length = ints (antI A B n) := List.take_of_length_le (by rw [yac]; exact Nat.le_refl _)
    have hof := M.of_b (n := n) (antI A B n) hn (by have := yr5 A B n; omega) (fun i hi => by obtain ⟨k, rfl, hk, _⟩ := (yqh A B n i).1 hi; omega)
    refine AW.exit ?_
    rw [← hQl1]
    refine hK10 _ _ _ ?_; clear hK10
    refine AW.seq fun K17 hK17 => ?_
    refine AW.regionK 0 (fun ii => if ii = 2 then some (.upd [200] (fun _ => []) (fun _ => .tup [.agg [.int .i64 n, .rsl 1 (words (setW (rowL n (antI A B n)) n))], .int .i64 0])) else none) [2, 3] [2] ?_
    simp only [go_sem, reduceIte, reduceCtorEq, zA, zM, zE, zL, zD, zS, zP, zB, zI, zR, htl, yac, htk]
    repeat with_reducible refine cj ?_ ?_
    all_goals try first | (exact hof.upd (by simp only [List.map_cons, List.map_nil, go_sem, reduceIte, zE, htk, yha])) | omega | exact ent (by kernel_rfl)
    refine hK17 _ _ _ ?_; clear hK17
    refine AW.ret ?_
    rw [← hQr]
    simp only [go_sem, reduceIte, reduceCtorEq, zA, zM, zE, zL, zD, zS, zP, zB, zI, zR, htl, yac]
    exact Wk.refl _
theorem yr7 (rs : List USet) (h : Reads Tryd.prog 16 false [relV rs] (.bool false)) : Reads Tryd.prog 30 false [relV rs] (.int .i64 1) := by
 unfold relV at *
 refine Reads.body (rs := [.tmp 2]) Tryd.func30 rfl Tryd.ntmps30 rfl (by simp) ?_
 generalize hQr : retQ _ _ _ = Qr
 refine AW.seq fun K1 hK1 => ?_
 refine AW.regionK 0 (fun _ => none) [1] [1] ?_
 simp only [go_sem, reduceIte, reduceCtorEq, zA, zM, zE, zL, zD, zS, zP, zB, zI, zR]
 repeat with_reducible refine cj ?_ ?_
 all_goals try first | omega
 refine hK1 _ _ _ ?_; clear hK1
 refine AW.seq fun K2 hK2 => ?_
 refine AW.block ?_
 refine AW.seq fun K3 hK3 => ?_
 refine AW.regionK 0 (fun ii => if ii = 1 then some (.reads false (.bool false)) else none) [1, 3] [1] ?_
 simp only [go_sem, reduceIte, reduceCtorEq, zA, zM, zE, zL, zD, zS, zP, zB, zI, zR]
 repeat with_reducible refine cj ?_ ?_
 all_goals try first | (exact h) | omega | exact ent (by kernel_rfl)
 refine hK3 _ _ _ ?_; clear hK3
 refine AW.cond rfl (by simp only [go_sem, reduceIte, reduceCtorEq, zA, zM, zE, zL, zD, zS, zP, zB, zI, zR]) ?_ ?_
 ·intro hb
  try simp only [hB, decide_eq_true_eq, decide_eq_false_iff_not] at hb
  refine AW.seq fun K4 hK4 => ?_
  refine AW.regionK 0 (fun _ => none) [2] [] ?_
  simp only [go_sem, reduceIte, reduceCtorEq, zA, zM, zE, zL, zD, zS, zP, zB, zI, zR]
  repeat with_reducible refine cj ?_ ?_
  all_goals try first | omega
  refine hK4 _ _ _ ?_; clear hK4
  refine AW.ret ?_
  rw [← hQr]
  simp only [go_sem, reduceIte, reduceCtorEq, zA, zM, zE, zL, zD, zS, zP, zB, zI, zR]
  exact Wk.refl _
 ·intro hb
  try simp only [hB, decide_eq_true_eq, decide_eq_false_iff_not] at hb
  exfalso; simp at hb
theorem yr8 (n : Nat) (t : List (List Bool)) (hs : Sq n t) (hn : n ≤ 512) (hp : poB n t = true) : Reads Tryd.prog 30 false [relB t] (.int .i64 (if (yas t n).length ≤ 2000 then 0 else 9)) := by
 have hrv := ysz n t hs hn
 rw [hp] at hrv
 have hpr := (R.rpairs_r n t hs hn).old
 have hpl := ydq t n n
 have hmul : n * n ≤ 262144 := Nat.le_trans (Nat.mul_le_mul hn hn) (by decide)
 have hpe : yav t n n = yas t n := rfl
 rw [hpe] at hpl
 unfold relB at *
 refine Reads.body (rs := [.tmp 2]) Tryd.func30 rfl Tryd.ntmps30 rfl (by simp) ?_
 generalize hQr : retQ _ _ _ = Qr
 refine AW.seq fun K1 hK1 => ?_
 refine AW.regionK 0 (fun _ => none) [1] [1] ?_
 simp only [go_sem, reduceIte, reduceCtorEq, zA, zM, zE, zL, zD, zS, zP, zB, zI, zR]
 repeat with_reducible refine cj ?_ ?_
 all_goals try first | omega
 refine hK1 _ _ _ ?_; clear hK1
 refine AW.seq fun K2 hK2 => ?_
 refine AW.block ?_
 refine AW.seq fun K3 hK3 => ?_
 refine AW.regionK 0 (fun ii => if ii = 1 then some (.reads false (.bool true)) else none) [1, 3] [1] ?_
 simp only [go_sem, reduceIte, reduceCtorEq, zA, zM, zE, zL, zD, zS, zP, zB, zI, zR]
 repeat with_reducible refine cj ?_ ?_
 all_goals try first | (exact hrv) | omega | exact ent (by kernel_rfl)
 refine hK3 _ _ _ ?_; clear hK3
 refine AW.cond rfl (by simp only [go_sem, reduceIte, reduceCtorEq, zA, zM, zE, zL, zD, zS, zP, zB, zI, zR]) ?_ ?_
 ·intro hb
  try simp only [hB, decide_eq_true_eq, decide_eq_false_iff_not] at hb
  exfalso; simp at hb
 ·intro hb
  try simp only [hB, decide_eq_true_eq, decide_eq_false_iff_not] at hb
  refine AW.seq fun K4 hK4 => ?_
  refine AW.regionK 0 (fun ii => if ii = 1 then some (.reads false (.rsl 2 ((yas t n).map ya8))) else none) [7] [] ?_
  simp only [go_sem, reduceIte, reduceCtorEq, zA, zM, zE, zL, zD, zS, zP, zB, zI, zR]
  repeat with_reducible refine cj ?_ ?_
  all_goals try first | (exact hpr) | omega | exact ent (by kernel_rfl)
  refine hK4 _ _ _ ?_; clear hK4
  refine AW.cond rfl (by simp only [go_sem, reduceIte, reduceCtorEq, zA, zM, zE, zL, zD, zS, zP, zB, zI, zR]) ?_ ?_
  ·intro hb
   try simp only [hB, decide_eq_true_eq, decide_eq_false_iff_not] at hb
   refine AW.seq fun K5 hK5 => ?_
   refine AW.regionK 0 (fun _ => none) [2] [] ?_
   simp only [go_sem, reduceIte, reduceCtorEq, zA, zM, zE, zL, zD, zS, zP, zB, zI, zR]
   repeat with_reducible refine cj ?_ ?_
   all_goals try first | omega
   refine hK5 _ _ _ ?_; clear hK5
   refine AW.ret ?_
   rw [← hQr]
   simp only [go_sem, reduceIte, reduceCtorEq, zA, zM, zE, zL, zD, zS, zP, zB, zI, zR]
   exact Wk.of_eq (by rw [if_neg (by omega)])
  ·intro hb
   try simp only [hB, decide_eq_true_eq, decide_eq_false_iff_not] at hb
   refine AW.skip ?_
   refine hK2 _ _ _ ?_; clear hK2
   refine AW.seq fun K6 hK6 => ?_
   refine AW.regionK 0 (fun _ => none) [2] [] ?_
   simp only [go_sem, reduceIte, reduceCtorEq, zA, zM, zE, zL, zD, zS, zP, zB, zI, zR]
   repeat with_reducible refine cj ?_ ?_
   all_goals try first | omega
   refine hK6 _ _ _ ?_; clear hK6
   refine AW.ret ?_
   rw [← hQr]
   simp only [go_sem, reduceIte, reduceCtorEq, zA, zM, zE, zL, zD, zS, zP, zB, zI, zR]
   exact Wk.of_eq (by rw [if_pos (by omega)])
end Go.Proofs.W

namespace Go.Proofs.W
open Go.AM Go
set_option maxRecDepth 100000
set_option maxHeartbeats 2000000
theorem ys0 (a b : Nat → Bool) : ∀ n, cnt (fun i => a i || b i) n ≤ cnt a n + cnt b n
 | 0 => Nat.le_refl _
 | n + 1 => by
  have := ys0 a b n
  rw [ych, ych, ych]
  cases a n <;> cases b n <;> simp <;> omega
theorem ymo {n : Nat} {E : List (Int × Int)} (h : M.Gd n n E) : (M.maxP n n E).length = cnt (pL (maxLR (nbOf n E) n n n).1) n := yml h.max.1.hL
theorem yf4 {n : Nat} {t : List (List Bool)} (h : M.Gd n n (yas t n)) : (chainsT n t).length + (M.maxP n n (yas t n)).length = n := by
 have hpl := plT h
 have h1 := hpl.len h.hE
 have h2 := mch_cnt hpl.hM
 have h3 := ymj (pL (plc n n (M.maxP n n (yas t n))).2) n
 have h4 : (chainsT n t).length = cnt (fun i => !pL (plc n n (M.maxP n n (yas t n))).2 i) n := by
  unfold chainsT chAt
  rw [List.length_map]
  show cnt (fun i => (begT n t).getD i false) n = _
  refine yhv fun i hi => ?_
  unfold begT
  rw [begF_get hi]
  congr 1
  have := hpl.hR i
  cases hq : (M.maxP n n (yas t n)).any fun p => decide (p.2 = (i : Int)) with
  | true => exact (decide_eq_true (this.2 hq)).symm
  | false => exact (decide_eq_false (fun h0 => by rw [this.1 h0] at hq; cases hq)).symm
 omega
theorem rwidth_eq {n : Nat} {t : List (List Bool)} (h : M.Gd n n (yas t n)) : (n : Int) - (cnt (pL (maxLR (nbT n t) n n n).1) n : Int) = ((chainsT n t).length : Nat) := by
 have h1 := maxT_size h.hE h.max.1 h.max.2
 have h2 := ymo h
 have h3 := yf4 h
 omega
def inS (n : Nat) (t : List (List Bool)) (i : Nat) : Bool := decide ((i : Int) ∈ (M.rchM n n (yas t n)).l)
def inT (n : Nat) (t : List (List Bool)) (i : Nat) : Bool := decide ((i : Int) ∈ (M.rchM n n (yas t n)).q)
theorem rchT {n : Nat} {t : List (List Bool)} (h : M.Gd n n (yas t n)) : Rch n n (yas t n) (maxLR (nbOf n (yas t n)) n n n).1 (maxLR (nbOf n (yas t n)) n n n).2 (inS n t) (inT n t) := by
 obtain ⟨_, h1, h2⟩ := ykm (yd3 n (yas t n)) h.rng h.max.1
 exact ⟨h.max.1, h.max.2, h.hE, fun i => by unfold inS; rw [decide_eq_true_eq]; exact h1 i, fun i => by unfold inT; rw [decide_eq_true_eq]; exact h2 i⟩
theorem yjj (n : Nat) (t : List (List Bool)) : (antF n t).length = n := yjf _ _
theorem ymp {n : Nat} {t : List (List Bool)} {i : Nat} (hi : i < n) : (antF n t).getD i false = (inS n t i && !inT n t i) := by
 have hA : (M.cvL n n (yas t n)).getD i false = !inS n t i := by
  unfold M.cvL
  rw [yjg hi]
  unfold inS
  rw [← decide_not]
  refine decide_eq_decide.2 ?_
  rw [M.restI_mem]
  constructor
  ·rintro ⟨k, e, _, h2⟩
   have : i = k := by omega
   subst this; exact h2
  ·intro h2; exact ⟨i, rfl, hi, h2⟩
 have hB : (M.cvR n n (yas t n)).getD i false = inT n t i := by
  unfold M.cvR inT
  rw [yjg hi]
 unfold antF
 rw [yjg hi]
 have : ((i : Int) ∈ antI (M.cvL n n (yas t n)) (M.cvR n n (yas t n)) n) ↔ (inS n t i && !inT n t i) = true := by
  rw [yqh]
  constructor
  ·rintro ⟨k, e, _, h1, h2⟩
   have : i = k := by omega
   subst this
   rw [hA] at h1
   rw [hB] at h2
   rw [h2]
   simpa using h1
  ·intro h
   simp only [Bool.and_eq_true, Bool.not_eq_true'] at h
   exact ⟨i, rfl, hi, by rw [hA, h.1]; rfl, by rw [hB]; exact h.2⟩
 cases hx : inS n t i && !inT n t i with
 | true => exact decide_eq_true (this.2 hx)
 | false => exact decide_eq_false (fun hm => by rw [this.1 hm] at hx; cases hx)
theorem antF_free {n : Nat} {t : List (List Bool)} (h : M.Gd n n (yas t n)) {i j : Nat} (hi : i < n) (hj : j < n) (h1 : (antF n t).getD i false = true) (h2 : (antF n t).getD j false = true) : atT t i j = false := by
 rw [ymp hi] at h1
 rw [ymp hj] at h2
 simp only [Bool.and_eq_true, Bool.not_eq_true'] at h1 h2
 cases ha : atT t i j with
 | false => rfl
 | true =>
  have he : (((i : Nat) : Int), ((j : Nat) : Int)) ∈ yas t n := pairsT_mem.2 ⟨i, j, rfl, hi, hj, ha⟩
  have := (rchT h).edge he (by simpa using h1.1)
  simp only [Int.toNat_natCast] at this
  rw [h2.2] at this; cases this
theorem antF_anti {n : Nat} {t : List (List Bool)} (h : M.Gd n n (yas t n)) : yky t (antF n t) = true := by
 rw [← frU_anti (yjj n t)]
 unfold frU frI
 rw [List.all_eq_true]
 intro i hi
 rw [List.all_eq_true]
 intro j hj
 have hi := List.mem_range.1 hi
 have hj := List.mem_range.1 hj
 cases h1 : (antF n t).getD i false with
 | false => rfl
 | true =>
  cases h2 : (antF n t).getD j false with
  | false => rfl
  | true => rw [antF_free h hi hj h1 h2]; rfl
theorem anti_max {n : Nat} {t : List (List Bool)} (hp : IsPo n t) (h : M.Gd n n (yas t n)) {b : List Bool} (hb : b.length = n) (ha : yky t b = true) : (memB b).length ≤ (chainsT n t).length := by
 have h1 := anti_le hp h.max.1 h.hE (fun i => b.getD i false) (fun i j hi hj h1 h2 => by
  cases hat : atT t i j with
  | false => rfl
  | true =>
   have := yko (t := t) (memB_mem.2 ⟨by omega, h1⟩) (memB_mem.2 ⟨by omega, h2⟩) hat
   unfold yky at ha
   rw [this] at ha; cases ha)
 have h2 := ymo h
 have h3 := yf4 h
 rw [yp7, hb]
 omega
theorem antF_size {n : Nat} {t : List (List Bool)} (hp : IsPo n t) (h : M.Gd n n (yas t n)) : (memB (antF n t)).length = (chainsT n t).length := by
 refine Nat.le_antisymm (anti_max hp h (yjj n t) (antF_anti h)) ?_
 have h1 := (rchT h).cover
 have h2 := ymo h
 have h3 := yf4 h
 have h4 := ymj (fun i => inS n t i && !inT n t i) n
 have h5 : cnt (fun i => !(inS n t i && !inT n t i)) n ≤ cnt (fun i => !inS n t i) n + cnt (inT n t) n := by
  have := ys0 (fun i => !inS n t i) (inT n t) n
  rw [show (fun i => !(inS n t i && !inT n t i)) = fun i => !inS n t i || inT n t i from funext fun i => by cases inS n t i <;> cases inT n t i <;> rfl]
  exact this
 have h6 : (memB (antF n t)).length = cnt (fun i => inS n t i && !inT n t i) n := by
  rw [yp7, yjj]
  exact yhv fun i hi => ymp hi
 omega
theorem ykr (rs : List USet) (hlr : yom rs) (k : Nat) (hk : k = 1 ∨ k = 9) (hw : Reads Tryd.prog 12 false [relV rs] (.tup [.int .i64 0, .int .i64 k])) (hh : Reads Tryd.prog 13 false [relV rs] (.tup [.int .i64 0, .int .i64 k]))
  (hc : Reads Tryd.prog 28 false [relV rs] (.tup [.nilsl, .int .i64 k])) (ha : Reads Tryd.prog 29 false [relV rs] (.tup [.agg [.int .i64 0, .nilsl], .int .i64 k])) (hf : Reads Tryd.prog 30 false [relV rs] (.int .i64 k)) :
  Reads Tryd.prog 6 false [relV rs] (.bool true) := by
 have haw := yr1
 have hgr := yrx rs hlr
 unfold relV at *
 refine Reads.body (rs := [.tmp 2]) Tryd.func6 rfl Tryd.ntmps6 rfl (by simp) ?_
 generalize hQr : retQ _ _ _ = Qr
 refine AW.seq fun K1 hK1 => ?_
 refine AW.regionK 0 (fun _ => none) [1] [1] ?_
 simp only [go_sem, reduceIte, reduceCtorEq, zA, zM, zE, zL, zD, zS, zP, zB, zI, zR]
 repeat with_reducible refine cj ?_ ?_
 all_goals try first | omega
 refine hK1 _ _ _ ?_; clear hK1
 refine AW.seq fun K2 hK2 => ?_
 refine AW.seq fun K3 hK3 => ?_
 refine AW.regionK 0 (fun ii => if ii = 0 then some (.reads false (.bool true)) else none) [1, 14] [1] ?_
 simp only [go_sem, reduceIte, reduceCtorEq, zA, zM, zE, zL, zD, zS, zP, zB, zI, zR]
 repeat with_reducible refine cj ?_ ?_
 all_goals try first | (exact haw) | omega | exact ent (by kernel_rfl)
 refine hK3 _ _ _ ?_; clear hK3
 refine AW.cond rfl (by simp only [go_sem, reduceIte, reduceCtorEq, zA, zM, zE, zL, zD, zS, zP, zB, zI, zR]) ?_ ?_
 ·intro hb
  try simp only [hB, decide_eq_true_eq, decide_eq_false_iff_not] at hb
  exfalso; simp at hb
 ·intro hb
  try simp only [hB, decide_eq_true_eq, decide_eq_false_iff_not] at hb
  refine AW.skip ?_
  refine hK2 _ _ _ ?_; clear hK2
  refine AW.seq fun K4 hK4 => ?_
  refine AW.seq fun K5 hK5 => ?_
  refine AW.regionK 0 (fun ii => if ii = 1 then some (.reads false (.bool (yrw rs))) else none) [1, 16] [1] ?_
  simp only [go_sem, reduceIte, reduceCtorEq, zA, zM, zE, zL, zD, zS, zP, zB, zI, zR]
  repeat with_reducible refine cj ?_ ?_
  all_goals try first | (exact hgr) | omega | exact ent (by kernel_rfl)
  refine hK5 _ _ _ ?_; clear hK5
  refine AW.cond rfl (by simp only [go_sem, reduceIte, reduceCtorEq, zA, zM, zE, zL, zD, zS, zP, zB, zI, zR]) ?_ ?_
  ·intro hb
   try simp only [hB, decide_eq_true_eq, decide_eq_false_iff_not] at hb
   refine AW.seq fun K6 hK6 => ?_
   refine AW.regionK 0 (fun _ => none) [2] [] ?_
   simp only [go_sem, reduceIte, reduceCtorEq, zA, zM, zE, zL, zD, zS, zP, zB, zI, zR]
   repeat with_reducible refine cj ?_ ?_
   all_goals try first | omega
   refine hK6 _ _ _ ?_; clear hK6
   refine AW.ret ?_
   rw [← hQr]
   simp only [go_sem, reduceIte, reduceCtorEq, zA, zM, zE, zL, zD, zS, zP, zB, zI, zR]
   exact Wk.refl _
  ·intro hb
   try simp only [hB, decide_eq_true_eq, decide_eq_false_iff_not] at hb
   refine AW.skip ?_
   refine hK4 _ _ _ ?_; clear hK4
   refine AW.seq fun K7 hK7 => ?_
   refine AW.regionK 0 (fun ii => if ii = 1 then some (.reads false (.tup [.int .i64 0, .int .i64 k])) else none) [1, 3, 4] [1] ?_
   simp only [go_sem, reduceIte, reduceCtorEq, zA, zM, zE, zL, zD, zS, zP, zB, zI, zR]
   repeat with_reducible refine cj ?_ ?_
   all_goals try first | (exact hw) | omega | exact ent (by kernel_rfl)
   refine hK7 _ _ _ ?_; clear hK7
   refine AW.seq fun K8 hK8 => ?_
   refine AW.regionK 0 (fun ii => if ii = 1 then some (.reads false (.tup [.int .i64 0, .int .i64 k])) else none) [1, 3, 4, 5, 6] [1] ?_
   simp only [go_sem, reduceIte, reduceCtorEq, zA, zM, zE, zL, zD, zS, zP, zB, zI, zR]
   repeat with_reducible refine cj ?_ ?_
   all_goals try first | (exact hh) | omega | exact ent (by kernel_rfl)
   refine hK8 _ _ _ ?_; clear hK8
   refine AW.seq fun K9 hK9 => ?_
   refine AW.regionK 0 (fun ii => if ii = 1 then some (.reads false (.tup [.nilsl, .int .i64 k])) else none) [1, 3, 4, 5, 6, 7, 8] [1] ?_
   simp only [go_sem, reduceIte, reduceCtorEq, zA, zM, zE, zL, zD, zS, zP, zB, zI, zR]
   repeat with_reducible refine cj ?_ ?_
   all_goals try first | (exact hc) | omega | exact ent (by kernel_rfl)
   refine hK9 _ _ _ ?_; clear hK9
   refine AW.seq fun K10 hK10 => ?_
   refine AW.regionK 0 (fun ii => if ii = 1 then some (.reads false (.tup [.agg [.int .i64 0, .nilsl], .int .i64 k])) else none) [1, 3, 4, 5, 6, 7, 8, 9, 10] [1, 9] ?_
   simp only [go_sem, reduceIte, reduceCtorEq, zA, zM, zE, zL, zD, zS, zP, zB, zI, zR]
   repeat with_reducible refine cj ?_ ?_
   all_goals try first | (exact ha) | omega | exact ent (by kernel_rfl)
   refine hK10 _ _ _ ?_; clear hK10
   refine AW.seq fun K11 hK11 => ?_
   refine AW.seq fun K12 hK12 => ?_
   refine AW.regionK 0 (fun ii => if ii = 1 then some (.reads false (.int .i64 k)) else none) [1, 3, 4, 5, 6, 7, 8, 9, 10, 11] [1, 9] ?_
   simp only [go_sem, reduceIte, reduceCtorEq, zA, zM, zE, zL, zD, zS, zP, zB, zI, zR]
   repeat with_reducible refine cj ?_ ?_
   all_goals try first | (exact hf) | omega | exact ent (by kernel_rfl)
   refine hK12 _ _ _ ?_; clear hK12
   refine AW.seq fun K13 hK13 => ?_
   refine AW.regionK 0 (fun _ => none) [1, 3, 4, 5, 6, 7, 8, 9, 10, 11, 40] [1, 9] ?_
   simp only [go_sem, reduceIte, reduceCtorEq, zA, zM, zE, zL, zD, zS, zP, zB, zI, zR]
   repeat with_reducible refine cj ?_ ?_
   all_goals try first | omega
   refine hK13 _ _ _ ?_; clear hK13
   refine AW.cond rfl (by simp only [go_sem, reduceIte, reduceCtorEq, zA, zM, zE, zL, zD, zS, zP, zB, zI, zR]) ?_ ?_
   ·intro hb
    try simp only [hB, decide_eq_true_eq, decide_eq_false_iff_not] at hb
    refine AW.seq fun K14 hK14 => ?_
    refine AW.regionK 0 (fun _ => none) [2] [] ?_
    simp (maxSteps := 2000000) only [go_sem, reduceIte, reduceCtorEq, zA, zM, zE, zL, zD, zS, zP, zB, zI, zR, decide_true]
    repeat with_reducible refine cj ?_ ?_
    all_goals try first | omega | (intros; (repeat' apply And.intro) <;> first | assumption | omega | decide) | (intro hgd; exact absurd hgd (by decide)) | rfl | (simp only [go_sem, reduceIte, reduceCtorEq, zA, zM, zE, zL, zD, zS, zP, zB, zI, zR, decide_true]; done) | (intro _hgd; simp_all [go_sem]; done)
    refine hK14 _ _ _ ?_; clear hK14
    refine AW.ret ?_
    rw [← hQr]
    simp only [go_sem, reduceIte, reduceCtorEq, zA, zM, zE, zL, zD, zS, zP, zB, zI, zR]
    exact Wk.of_eq (by simp)
   ·intro hb
    try simp only [hB, decide_eq_true_eq, decide_eq_false_iff_not] at hb
    exfalso; omega
theorem numbers_g (n : Nat) (t : List (List Bool)) (hs : Sq n t) (hn : n ≤ 512) (hp : poB n t = true) (hl : (yas t n).length ≤ 2000) {gb : Bool} (hgr : Reads Tryd.prog 9 false [relB t] (.bool gb)) :
  Reads Tryd.prog 6 false [relB t] (.bool true) := by
 have haw := yr1
 have hpo := (yki hs).1 hp
 have hg := gdT hn hl
 have hw := yrv n t hs hn hp hl
 have hL := yor hs hpo
 have hh := yqe n t hs hn hp hl hL.len (fun j => by
  have := yox (l := levO n t) (B := 1000) (by decide) (fun x hx => by
   obtain ⟨i, hi, rfl⟩ := List.getElem_of_mem hx
   have h1 := hL.pos i (by rw [← hL.len]; exact hi)
   have h2 := ypy hL (j := i) (by rw [← hL.len]; exact hi)
   rw [List.getD_eq_getElem?_getD, List.getElem?_eq_getElem hi, Option.getD_some] at h1 h2
   omega) j
  omega)
 have hc := (yqc n t hs hn hp hl).old
 have ha := antic_g n t hs hn hp hl
 have hf := yr8 n t hs hn hp
 rw [if_pos hl] at hf
 have hta := (R.table_r n t hs hn).old
 have hrw := rwidth_r n t hs hn
 rw [rwidth_eq hg] at hrw
 have hrh := rheight_r n t hs hn hp
 have hal := yjj n t
 have hwl := yf1 (b := antF n t) (by omega)
 have va := yca (b := antF n t) (by omega)
 have hrs := rsize_r (antF n t) (by omega)
 rw [hal] at hwl va hrs
 rw [antF_size hpo hg] at hrs
 have hfo := R.formed_r n n (setW (antF n t) n) (by omega) (by omega) (by omega)
 rw [va] at hfo
 simp only [decide_true, Bool.and_true] at hfo
 have hnl := M.nbR_len (chainsT n t)
 have hrl : (ydf t).length = n := by rw [yef, hs.len]
 have hcl := yf4 hg
 unfold relB at *
 generalize setW (antF n t) n = W at *
 generalize chainsT n t = C at *
 generalize heightT n t = H at *
 refine Reads.body (rs := [.tmp 2]) Tryd.func6 rfl Tryd.ntmps6 rfl (by simp) ?_
 generalize hQr : retQ _ _ _ = Qr
 refine AW.seq fun K1 hK1 => ?_
 refine AW.regionK 0 (fun _ => none) [1] [1] ?_
 simp only [go_sem, reduceIte, reduceCtorEq, zA, zM, zE, zL, zD, zS, zP, zB, zI, zR, hnl, hrl, eq_self, decide_true]
 repeat with_reducible refine cj ?_ ?_
 all_goals try first | omega
 refine hK1 _ _ _ ?_; clear hK1
 refine AW.seq fun K2 hK2 => ?_
 refine AW.seq fun K3 hK3 => ?_
 refine AW.regionK 0 (fun ii => if ii = 0 then some (.reads false (.bool true)) else none) [1, 14] [1] ?_
 simp only [go_sem, reduceIte, reduceCtorEq, zA, zM, zE, zL, zD, zS, zP, zB, zI, zR, hnl, hrl, eq_self, decide_true]
 repeat with_reducible refine cj ?_ ?_
 all_goals try first | (exact haw) | omega | exact ent (by kernel_rfl)
 refine hK3 _ _ _ ?_; clear hK3
 refine AW.cond rfl (by simp only [go_sem, reduceIte, reduceCtorEq, zA, zM, zE, zL, zD, zS, zP, zB, zI, zR]) ?_ ?_
 ·intro hb
  try simp only [hB, decide_eq_true_eq, decide_eq_false_iff_not] at hb
  exfalso; simp at hb
 ·intro hb
  try simp only [hB, decide_eq_true_eq, decide_eq_false_iff_not] at hb
  refine AW.skip ?_
  refine hK2 _ _ _ ?_; clear hK2
  refine AW.seq fun K4 hK4 => ?_
  refine AW.seq fun K5 hK5 => ?_
  refine AW.regionK 0 (fun ii => if ii = 1 then some (.reads false (.bool gb)) else none) [1, 16] [1] ?_
  simp only [go_sem, reduceIte, reduceCtorEq, zA, zM, zE, zL, zD, zS, zP, zB, zI, zR, hnl, hrl, eq_self, decide_true]
  repeat with_reducible refine cj ?_ ?_
  all_goals try first | (exact hgr) | omega | exact ent (by kernel_rfl)
  refine hK5 _ _ _ ?_; clear hK5
  refine AW.cond rfl (by simp only [go_sem, reduceIte, reduceCtorEq, zA, zM, zE, zL, zD, zS, zP, zB, zI, zR]) ?_ ?_
  ·intro hb
   try simp only [hB, decide_eq_true_eq, decide_eq_false_iff_not] at hb
   refine AW.seq fun K6 hK6 => ?_
   refine AW.regionK 0 (fun _ => none) [2] [] ?_
   simp only [go_sem, reduceIte, reduceCtorEq, zA, zM, zE, zL, zD, zS, zP, zB, zI, zR, hnl, hrl, eq_self, decide_true]
   repeat with_reducible refine cj ?_ ?_
   all_goals try first | omega
   refine hK6 _ _ _ ?_; clear hK6
   refine AW.ret ?_
   rw [← hQr]
   simp only [go_sem, reduceIte, reduceCtorEq, zA, zM, zE, zL, zD, zS, zP, zB, zI, zR, hnl, hrl, eq_self, decide_true]
   exact Wk.refl _
  ·intro hb
   try simp only [hB, decide_eq_true_eq, decide_eq_false_iff_not] at hb
   refine AW.skip ?_
   refine hK4 _ _ _ ?_; clear hK4
   refine AW.seq fun K7 hK7 => ?_
   refine AW.regionK 0 (fun ii => if ii = 1 then some (.reads false (.tup [.int .i64 (C.length : Nat), .int .i64 0])) else none) [1, 3, 4] [1] ?_
   simp only [go_sem, reduceIte, reduceCtorEq, zA, zM, zE, zL, zD, zS, zP, zB, zI, zR, hnl, hrl, eq_self, decide_true]
   repeat with_reducible refine cj ?_ ?_
   all_goals try first | (exact hw) | omega | exact ent (by kernel_rfl)
   refine hK7 _ _ _ ?_; clear hK7
   refine AW.seq fun K8 hK8 => ?_
   refine AW.regionK 0 (fun ii => if ii = 1 then some (.reads false (.tup [.int .i64 H, .int .i64 0])) else none) [1, 3, 4, 5, 6] [1] ?_
   simp only [go_sem, reduceIte, reduceCtorEq, zA, zM, zE, zL, zD, zS, zP, zB, zI, zR, hnl, hrl, eq_self, decide_true]
   repeat with_reducible refine cj ?_ ?_
   all_goals try first | (exact hh) | omega | exact ent (by kernel_rfl)
   refine hK8 _ _ _ ?_; clear hK8
   refine AW.seq fun K9 hK9 => ?_
   refine AW.regionK 0 (fun ii => if ii = 1 then some (.reads false (.tup [.rsl 1 (M.nbR C), .int .i64 0])) else none) [1, 3, 4, 5, 6, 7, 8] [1] ?_
   simp only [go_sem, reduceIte, reduceCtorEq, zA, zM, zE, zL, zD, zS, zP, zB, zI, zR, hnl, hrl, eq_self, decide_true]
   repeat with_reducible refine cj ?_ ?_
   all_goals try first | (exact hc) | omega | exact ent (by kernel_rfl)
   refine hK9 _ _ _ ?_; clear hK9
   refine AW.seq fun K10 hK10 => ?_
   refine AW.regionK 0 (fun ii => if ii = 1 then some (.reads false (.tup [.agg [.int .i64 n, .rsl 1 (words W)], .int .i64 0])) else none) [1, 3, 4, 5, 6, 7, 8, 9, 10] [1, 9] ?_
   simp only [go_sem, reduceIte, reduceCtorEq, zA, zM, zE, zL, zD, zS, zP, zB, zI, zR, hnl, hrl, eq_self, decide_true]
   repeat with_reducible refine cj ?_ ?_
   all_goals try first | (exact ha) | omega | exact ent (by kernel_rfl)
   refine hK10 _ _ _ ?_; clear hK10
   refine AW.seq fun K11 hK11 => ?_
   refine AW.seq fun K12 hK12 => ?_
   refine AW.regionK 0 (fun ii => if ii = 1 then some (.reads false (.int .i64 0)) else none) [1, 3, 4, 5, 6, 7, 8, 9, 10, 11] [1, 9] ?_
   simp only [go_sem, reduceIte, reduceCtorEq, zA, zM, zE, zL, zD, zS, zP, zB, zI, zR, hnl, hrl, eq_self, decide_true]
   repeat with_reducible refine cj ?_ ?_
   all_goals try first | (exact hf) | omega | exact ent (by kernel_rfl)
   refine hK12 _ _ _ ?_; clear hK12
   refine AW.seq fun K13 hK13 => ?_
   refine AW.regionK 0 (fun _ => none) [1, 3, 4, 5, 6, 7, 8, 9, 10, 11, 40] [1, 9] ?_
   simp only [go_sem, reduceIte, reduceCtorEq, zA, zM, zE, zL, zD, zS, zP, zB, zI, zR, hnl, hrl, eq_self, decide_true]
   repeat with_reducible refine cj ?_ ?_
   all_goals try first | omega
   refine hK13 _ _ _ ?_; clear hK13
   refine AW.cond rfl (by simp only [go_sem, reduceIte, reduceCtorEq, zA, zM, zE, zL, zD, zS, zP, zB, zI, zR]) ?_ ?_
   ·intro hb
    try simp only [hB, decide_eq_true_eq, decide_eq_false_iff_not] at hb
    exfalso; simp at hb
   ·intro hb
    try simp only [hB, decide_eq_true_eq, decide_eq_false_iff_not] at hb
    refine AW.skip ?_
    refine hK11 _ _ _ ?_; clear hK11
    refine AW.seq fun K14 hK14 => ?_
    refine AW.regionK 0 (fun ii => if ii = 1 then some (.reads false (.rsl 1 (ydf t))) else none) [3, 4, 5, 6, 7, 8, 9, 10, 12] [9] ?_
    simp only [go_sem, reduceIte, reduceCtorEq, zA, zM, zE, zL, zD, zS, zP, zB, zI, zR, hnl, hrl, eq_self, decide_true]
    repeat with_reducible refine cj ?_ ?_
    all_goals try first | (exact hta) | omega | exact ent (by kernel_rfl)
    refine hK14 _ _ _ ?_; clear hK14
    refine AW.seq fun K15 hK15 => ?_
    refine AW.regionK 0 (fun ii => if ii = 5 then some (.reads false (.int .i64 (C.length : Nat))) else if ii = 15 then some (.reads false (.int .i64 H)) else if ii = 36 then some (.reads false (.bool true)) else if ii = 40 then some (.reads false (.int .i64 (C.length : Nat))) else none) [2] [] ?_
    simp (maxSteps := 2000000) only [go_sem, reduceIte, reduceCtorEq, zA, zM, zE, zL, zD, zS, zP, zB, zI, zR, hnl, hrl, eq_self, decide_true]
    repeat with_reducible refine cj ?_ ?_
    all_goals try first | (first | exact hrw | exact hrh | exact hfo | exact hrs) | (intros; (repeat' apply And.intro) <;> first | assumption | (first | exact hrw | exact hrh | exact hfo | exact hrs)) | omega | exact ent (by kernel_rfl) | (intro hgd; exact absurd hgd (by decide)) | rfl | (simp only [go_sem, reduceIte, reduceCtorEq, zA, zM, zE, zL, zD, zS, zP, zB, zI, zR, hnl, hrl, eq_self, decide_true]; done) | (intro _hgd; simp_all [go_sem]; done)
    refine hK15 _ _ _ ?_; clear hK15
    refine AW.ret ?_
    rw [← hQr]
    simp only [go_sem, reduceIte, reduceCtorEq, zA, zM, zE, zL, zD, zS, zP, zB, zI, zR, hnl, hrl, eq_self, decide_true]
    exact Wk.of_eq (by simp)
theorem law_numbers (rs : List USet) (hlr : yom rs) (hok : ∀ x ∈ rs, okW x.W) : Reads Tryd.prog 6 false [relV rs] (.bool true) := by
 by_cases hv : ydh rs = true
 ·obtain ⟨t, ht, hs, hn⟩ := rel_of hok hv
  have hgr := yrx rs hlr
  rw [ht, ← yl0] at hgr
  have heq : relV rs = relB t := by rw [ht, ← yl0]
  generalize rs.length = n at *
  by_cases hp : poB n t = true
  ·by_cases hl : (yas t n).length ≤ 2000
   ·rw [heq]; exact numbers_g n t hs hn hp hl hgr
   ·have hf := yr8 n t hs hn hp
    rw [if_neg hl] at hf
    exact ykr rs hlr 9 (.inr rfl) (by rw [heq]; exact width_b n t hs hn hp hl) (by rw [heq]; exact height_b n t hs hn hp hl) (by rw [heq]; exact yqb n t hs hn hp hl) (by rw [heq]; exact antic_b n t hs hn hp hl) (by rw [heq]; exact hf)
  ·have hp : poB n t = false := by simpa using hp
   have h1 := yf2 n t hs hn
   have h2 := ysz n t hs hn
   rw [hp, ← heq] at h1 h2
   exact ykr rs hlr 1 (.inl rfl) (yru _ h1) (yqd _ h1) (ymm _ h1) (yr6 _ h1) (yr7 rs h2)
 ·have hv : ydh rs = false := by simpa using hv
  have h1 := pvalid_e rs hlr hv
  exact ykr rs hlr 1 (.inl rfl) (yru _ h1) (yqd _ h1) (ymm _ h1) (yr6 _ h1) (yr7 rs (rval_e rs hlr hv))
end Go.Proofs.W

