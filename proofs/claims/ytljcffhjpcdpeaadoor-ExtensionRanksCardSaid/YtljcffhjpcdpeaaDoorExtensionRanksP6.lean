/- Lemmas and contracts, part 6: an abstract machine over the model, and the functions that the statement reaches. -/
import Derived.Test.YtljcffhjpcdpeaaDoorExtensionRanksP5
import Derived.Carry
import Derived.RowKit
import Derived.OpenShut
import Derived.Below
import Derived.ChangeSame
import Derived.JoinedOf
import Derived.Handed
import Derived.MakeChecks
import Derived.LaidMore
import Derived.Test.YtljcffhjpcdpeaaDoorRows
set_option linter.unusedVariables false
set_option linter.unusedSimpArgs false
open Nat renaming reduceAdd → zA, reduceMul → zM, reduceEqDiff → zE, reduceLT → zL, reduceLeDiff → zD, reduceSub → zS, reducePow → zP, reduceBEq → zB
open Int renaming reduceToNat → zI
open List renaming reduceReplicate → zR
namespace Go.Proofs.X
open Go.AM Go
set_option maxRecDepth 100000
set_option maxHeartbeats 8000000
@[go_sem] theorem vwc_rowsR (s : yap) (d : Nat) (t : List (List Bool)) : (ya2 t).map (fun cs => cs.map (vwc s d)) = ya2 t := by simp [ya2, yn2]
theorem yax (t : List (List Bool)) : (ya2 t).length = t.length := by simp [ya2]
theorem rest_over (n : Nat) (t : List (List Bool)) (hs : Sq n t) (hn : n ≤ 512) (D : List Bool) (hDl : D.length = n) (m : Nat) (hm : cntT D + m = n) (hbud : 5000 < cntF (belL n t) n D m) :
  Reads Tryd.prog 46 false [relB t, .rsl 1 (yar D)] (.tup [.int .i64 0, .int .i64 16]) := by
 have hlt : (tabR t).length = n := by rw [ycu, hs.len]
 have hready := fun d hd x hx => yi9 n t hs hn d hd x hx
 have hcnt : D.countP (!·) = m := by
  have h1 := List.length_eq_countP_add_countP (p := id) (l := D)
  unfold cntT at hm
  have h2 : D.countP (!·) = D.countP (fun a => decide (¬ id a = true)) := by congr 1; funext b; cases b <;> rfl
  omega
 unfold relB at *
 generalize belL n t = bel at *
 refine Reads.body (rs := [.tmp 4, .tmp 5]) Tryd.func46 rfl Tryd.ntmps46 rfl (by simp) ?_
 generalize hQr : retQ _ _ _ = Qr
 refine AW.seq fun K1 hK1 => ?_
 refine AW.regionK 0 (fun _ => none) [1, 2] [2] ?_
 simp only [go_sem, reduceIte, reduceCtorEq, zA, zM, zE, zL, zD, zS, zP, zB, zI, zR, yaa, yab, hlt, yax]
 repeat with_reducible refine cj ?_ ?_
 all_goals try first | omega
 refine hK1 _ _ _ ?_; clear hK1
 refine AW.seq fun K2 hK2 => ?_
 refine AW.regionK 0 (fun _ => none) [1, 2, 6] [2] ?_
 simp only [go_sem, reduceIte, reduceCtorEq, zA, zM, zE, zL, zD, zS, zP, zB, zI, zR, yaa, yab, hlt, yax]
 repeat with_reducible refine cj ?_ ?_
 all_goals try first | omega
 refine hK2 _ _ _ ?_; clear hK2
 refine AW.seq fun K3 hK3 => ?_
 refine AW.regionK 0 (fun _ => none) [1, 2, 6, 7] [2, 24] ?_
 simp only [go_sem, reduceIte, reduceCtorEq, zA, zM, zE, zL, zD, zS, zP, zB, zI, zR, yaa, yab, hlt, yax]
 repeat with_reducible refine cj ?_ ?_
 all_goals try first | omega
 refine hK3 _ _ _ ?_; clear hK3
 refine AW.seq fun K4 hK4 => ?_
 refine AW.regionK 0 (fun _ => none) [1, 2, 6, 7, 8] [2, 24, 25] ?_
 simp only [go_sem, reduceIte, reduceCtorEq, zA, zM, zE, zL, zD, zS, zP, zB, zI, zR, yaa, yab, hlt, yax]
 repeat with_reducible refine cj ?_ ?_
 all_goals try first | omega
 refine hK4 _ _ _ ?_; clear hK4
 refine AW.freezeK [24, 25] [7, 8] [1, 2, 6] [2] ?_
 simp only [go_sem, reduceIte, zE]
 refine AW.seq fun K5 hK5 => ?_
 refine AW.regionK 0 (fun _ => none) [1, 2, 6, 7, 8, 9] [2] ?_
 simp only [go_sem, reduceIte, reduceCtorEq, zA, zM, zE, zL, zD, zS, zP, zB, zI, zR, yaa, yab, hlt, yax]
 repeat with_reducible refine cj ?_ ?_
 all_goals try first | omega
 refine hK5 _ _ _ ?_; clear hK5
 refine AW.seq fun K6 hK6 => ?_
 refine AW.regionK 0 (fun _ => none) [1, 2, 6, 7, 8, 9, 10] [2] ?_
 simp only [go_sem, reduceIte, reduceCtorEq, zA, zM, zE, zL, zD, zS, zP, zB, zI, zR, yaa, yab, hlt, yax]
 repeat with_reducible refine cj ?_ ?_
 all_goals try first | omega
 refine hK6 _ _ _ ?_; clear hK6
 refine AW.seq fun K7 hK7 => ?_
 refine AW.regionK 0 (fun _ => none) [1, 2, 6, 7, 8, 9, 10, 11] [2] ?_
 simp only [go_sem, reduceIte, reduceCtorEq, zA, zM, zE, zL, zD, zS, zP, zB, zI, zR, yaa, yab, hlt, yax]
 repeat with_reducible refine cj ?_ ?_
 all_goals try first | omega
 refine hK7 _ _ _ ?_; clear hK7
 refine AW.seq fun K8 hK8 => ?_
 refine AW.seq fun K9 hK9 => ?_
 refine AW.regionK 0 (fun _ => none) [1, 2, 6, 7, 8, 9, 10, 11, 12] [2] ?_
 simp only [go_sem, reduceIte, reduceCtorEq, zA, zM, zE, zL, zD, zS, zP, zB, zI, zR, yaa, yab, hlt, yax]
 repeat with_reducible refine cj ?_ ?_
 all_goals try first | omega
 refine hK9 _ _ _ ?_; clear hK9
 refine AW.block ?_
 refine AW.loopE (fun mm ee ss kk => ∃ (i g2 v2 : Nat), n - i = mm ∧ ee = [(1, .rsl 1 (yar D)), (2, .ptr ⟨2, g2, none⟩ 0 0), (6, .int .i64 n), (7, .rsl 1 [[.rsl 1 (yar D)]]), (8, .rsl 1 [[.int .i64 1]]), (9, .int .i64 1), (10, .bool false), (11, .int .i64 ((D.take i).countP (!·) : Nat)), (12, .int .i64 (i : Nat))] ∧ ss = [(2, some ⟨g2, v2, 1, [[.rsl 2 (tabR t)]]⟩)] ∧ (i ≤ n)) ?_ ?_
 ·refine ⟨_, 0, ?_, ?_, rfl, ?henv, ?hstore, ?hst⟩
  case henv =>
   repeat' (first | rfl | refine yac ?_ ?_ | refine yae ?_ ?_ ?_ ?_ | refine yah ?_ | refine yaf ?_ | refine yai ?_ | refine yaj ?_ | refine yan ?_ ?_ ?_ | refine yak ?_ ?_ ?_ | refine yal ?_ | refine yag ?_ ?_ | refine yad ?_ ?_)
   all_goals (first | (simp; done) | omega | (simp; omega))
  case hstore =>
   repeat' (first | rfl | refine yac ?_ ?_ | refine yae ?_ ?_ ?_ ?_ | refine yah ?_ | refine yaf ?_ | refine yai ?_ | refine yaj ?_ | refine yan ?_ ?_ ?_ | refine yak ?_ ?_ ?_ | refine yal ?_ | refine yag ?_ ?_ | refine yad ?_ ?_)
   all_goals (first | (simp; done) | omega | (simp; omega))
  case hst =>
   first | trivial | omega | (simp; done) | (simp; omega)
 rintro mm ee ss kk ⟨i, g2, v2, rfl, rfl, rfl, hI⟩
 generalize hQl1 : ya9 _ _ = Ql1
 have hcl : (D.take i).countP (!·) ≤ 512 := Nat.le_trans List.countP_le_length (by simp; omega)
 refine AW.seq fun K10 hK10 => ?_
 refine AW.seq fun K11 hK11 => ?_
 refine AW.regionK 0 (fun _ => none) [1, 2, 6, 7, 8, 9, 10, 11, 12, 28] [2] ?_
 simp only [go_sem, reduceIte, reduceCtorEq, zA, zM, zE, zL, zD, zS, zP, zB, zI, zR, yaa, yab, hlt, yax]
 repeat with_reducible refine cj ?_ ?_
 all_goals try first | omega
 refine hK11 _ _ _ ?_; clear hK11
 refine AW.cond rfl (by simp only [go_sem, reduceIte, reduceCtorEq, zA, zM, zE, zL, zD, zS, zP, zB, zI, zR]) ?_ ?_
 ·intro hb
  try simp only [hB, decide_eq_true_eq, decide_eq_false_iff_not] at hb
  have hin : i < n := by omega
  have hgi := ybh (l := D) (i := i) (by omega)
  have htk : D.take (i + 1) = D.take i ++ [D.getD i false] := by rw [List.take_add_one, List.getElem?_eq_getElem (by omega)]; simp [List.getD_eq_getElem?_getD, List.getElem?_eq_getElem (show i < D.length by omega)]
  have hct : (D.take (i + 1)).countP (!·) = (D.take i).countP (!·) + (if D.getD i false then 0 else 1) := by rw [htk, List.countP_append]; cases D.getD i false <;> simp
  refine AW.skip ?_
  refine hK10 _ _ _ ?_; clear hK10
  refine AW.seq fun K12 hK12 => ?_
  refine AW.block ?_
  refine AW.seq fun K13 hK13 => ?_
  refine AW.regionK 0 (fun _ => none) [1, 2, 6, 7, 8, 9, 10, 11, 12, 35] [2] ?_
  simp only [go_sem, reduceIte, reduceCtorEq, zA, zM, zE, zL, zD, zS, zP, zB, zI, zR, yaa, yab, hlt, yax, hgi]
  repeat with_reducible refine cj ?_ ?_
  all_goals try first | omega
  refine hK13 _ _ _ ?_; clear hK13
  have hJ2 : ∀ (z : Nat) (kk : Nat), K12 [(1, .rsl 1 (yar D)), (2, .ptr ⟨2, g2, none⟩ 0 0), (6, .int .i64 n), (7, .rsl 1 [[.rsl 1 (yar D)]]), (8, .rsl 1 [[.int .i64 1]]), (9, .int .i64 1), (10, .bool false), (11, .int .i64 ((D.take (i + 1)).countP (!·) : Nat)), (12, .int .i64 (i : Nat))] [(2, some ⟨g2, v2, 1, [[.rsl 2 (tabR t)]]⟩)] kk := by
   intro z kk
   refine hK12 _ _ _ ?_; clear hK12
   refine AW.regionK 0 (fun _ => none) [1, 2, 6, 7, 8, 9, 10, 11, 12] [2] ?_
   simp only [go_sem, reduceIte, reduceCtorEq, zA, zM, zE, zL, zD, zS, zP, zB, zI, zR, yaa, yab, hlt, yax]
   repeat with_reducible refine cj ?_ ?_
   all_goals try first | omega
   rw [← hQl1]
   change Exists _
   refine ⟨_, ?hm, i + 1, ?_, ?_, rfl, ?henv, ?hstore, ?hst⟩
   case henv =>
    repeat' (first | rfl | refine yac ?_ ?_ | refine yae ?_ ?_ ?_ ?_ | refine yah ?_ | refine yaf ?_ | refine yai ?_ | refine yaj ?_ | refine yan ?_ ?_ ?_ | refine yak ?_ ?_ ?_ | refine yal ?_ | refine yag ?_ ?_ | refine yad ?_ ?_)
    all_goals (first | (simp; done) | omega | (simp; omega))
   case hstore =>
    repeat' (first | rfl | refine yac ?_ ?_ | refine yae ?_ ?_ ?_ ?_ | refine yah ?_ | refine yaf ?_ | refine yai ?_ | refine yaj ?_ | refine yan ?_ ?_ ?_ | refine yak ?_ ?_ ?_ | refine yal ?_ | refine yag ?_ ?_ | refine yad ?_ ?_)
    all_goals (first | (simp; done) | omega | (simp; omega))
   case hst =>
    omega
   case hm => omega
  refine AW.cond rfl (by simp only [go_sem, reduceIte, reduceCtorEq, zA, zM, zE, zL, zD, zS, zP, zB, zI, zR]) ?_ ?_
  ·intro hb
   try simp only [hB, decide_eq_true_eq, decide_eq_false_iff_not] at hb
   have hd : D.getD i false = false := by revert hb; simp
   rw [hct, hd] at hJ2
   simp only [Bool.false_eq_true, if_false] at hJ2
   refine AW.regionK 0 (fun _ => none) [1, 2, 6, 7, 8, 9, 10, 11, 12] [2] ?_
   simp only [go_sem, reduceIte, reduceCtorEq, zA, zM, zE, zL, zD, zS, zP, zB, zI, zR, yaa, yab, hlt, yax]
   repeat with_reducible refine cj ?_ ?_
   all_goals try first | omega
   exact hJ2 0 _
  ·intro hb
   try simp only [hB, decide_eq_true_eq, decide_eq_false_iff_not] at hb
   have hd : D.getD i false = true := by revert hb; simp
   rw [hct, hd] at hJ2
   simp only [if_true, Nat.add_zero] at hJ2
   refine AW.keep [1, 2, 6, 7, 8, 9, 10, 11, 12] [2] ?_
   try simp only [go_sem, reduceIte, reduceCtorEq, zA, zM, zE, zL, zD, zS, zP, zB, zI, zR]
   refine AW.skip ?_
   exact hJ2 0 _
 ·intro hb
  try simp only [hB, decide_eq_true_eq, decide_eq_false_iff_not] at hb
  have hin : n = i := by omega
  subst hin
  rw [List.take_of_length_le (by omega), hcnt]
  refine AW.keep [2, 6, 7, 8, 9, 10, 11] [2] ?_
  try simp only [go_sem, reduceIte, reduceCtorEq, zA, zM, zE, zL, zD, zS, zP, zB, zI, zR]
  refine AW.exit ?_
  rw [← hQl1]
  refine hK8 _ _ _ ?_; clear hK8
  refine AW.seq fun K14 hK14 => ?_
  refine AW.block ?_
  refine AW.loopE (fun mm ee ss kk => ∃ (j g2 v2 : Nat), m - j = mm ∧ ee = [(2, .ptr ⟨2, g2, none⟩ 0 0), (6, .int .i64 n), (7, .rsl 1 (ya2 (rIt bel n D j).nx)), (8, .rsl 1 (ints (rIt bel n D j).sm)), (9, .int .i64 (cntF bel n D j : Nat)), (10, .bool (rIt bel n D j).bg), (11, .int .i64 ((m : Int) - j))] ∧ ss = [(2, some ⟨g2, v2, 1, [[.rsl 2 (tabR t)]]⟩)] ∧ (j ≤ m ∧ cntF bel n D j ≤ 5000)) ?_ ?_
  ·refine ⟨_, 0, ?_, ?_, rfl, ?henv, ?hstore, ?hst⟩
   case henv =>
    repeat' (first | rfl | refine yac ?_ ?_ | refine yae ?_ ?_ ?_ ?_ | refine yah ?_ | refine yaf ?_ | refine yai ?_ | refine yaj ?_ | refine yan ?_ ?_ ?_ | refine yak ?_ ?_ ?_ | refine yal ?_ | refine yag ?_ ?_ | refine yad ?_ ?_)
    all_goals (first | omega | (simp; done) | rfl)
   case hstore =>
    repeat' (first | rfl | refine yac ?_ ?_ | refine yae ?_ ?_ ?_ ?_ | refine yah ?_ | refine yaf ?_ | refine yai ?_ | refine yaj ?_ | refine yan ?_ ?_ ?_ | refine yak ?_ ?_ ?_ | refine yal ?_ | refine yag ?_ ?_ | refine yad ?_ ?_)
    all_goals (first | (simp; done) | omega | (simp; omega))
   case hst =>
    exact ⟨by omega, by simp [cntF]⟩
  rintro mm ee ss kk ⟨j, g2, v2, rfl, rfl, rfl, hI⟩
  generalize hQl2 : ya9 _ _ = Ql2
  obtain ⟨hj, hc⟩ := hI
  refine AW.seq fun K15 hK15 => ?_
  refine AW.seq fun K16 hK16 => ?_
  refine AW.regionK 0 (fun _ => none) [2, 6, 7, 8, 9, 10, 11, 39] [2] ?_
  simp only [go_sem, reduceIte, reduceCtorEq, zA, zM, zE, zL, zD, zS, zP, zB, zI, zR, yaa, yab, hlt, yax]
  repeat with_reducible refine cj ?_ ?_
  all_goals try first | omega
  refine hK16 _ _ _ ?_; clear hK16
  refine AW.cond rfl (by simp only [go_sem, reduceIte, reduceCtorEq, zA, zM, zE, zL, zD, zS, zP, zB, zI, zR]) ?_ ?_
  ·intro hb
   try simp only [hB, decide_eq_true_eq, decide_eq_false_iff_not] at hb
   have hjm : j < m := by omega
   have hok := yiu bel n D j
   have hnx := yka bel n D j
   have hll := fun S (hS : S ∈ (rIt bel n D j).nx) => yc6 (bel := bel) (n := n) hDl (j := j) (by rw [← hnx]; exact hS)
   have hsucc : rIt bel n D (j + 1) = yb5 bel n ((rIt bel n D j).nx.zip (rIt bel n D j).sm) ⟨[], [], (rIt bel n D j).bg⟩ := rfl
   have hcs : cntF bel n D (j + 1) = cntF bel n D j + (ybt bel n (rIt bel n D j).nx).length := by rw [hnx]; rfl
   have hcm := ykb bel n D (j + 1) m (by omega)
   have hle := yno bel n D j
   rw [← hnx] at hle
   have hnt := yf5 bel n (rIt bel n D j).nx
   have hns := fun k S => yf6 bel n (prev := (rIt bel n D j).nx) (k := k) (S := S)
   clear hnx
   generalize rIt bel n D j = R at *
   obtain ⟨L, W, B⟩ := R
   simp only at *
   have hLW : L.length = W.length := hok.len
   have hft := fun k => yk4 bel n hLW k B
   have hok2 := fun k => hok.ftake (bel := bel) (n := n) k B
   have hrs := fun k S w h1 h2 => yk3 bel n (L := L) (W := W) (k := k) (S := S) (w := w) h1 h2 ⟨[], [], B⟩
   simp only at hok2
   refine AW.skip ?_
   refine hK15 _ _ _ ?_; clear hK15
   refine AW.seq fun K17 hK17 => ?_
   refine AW.block ?_
   refine AW.seq fun K18 hK18 => ?_
   refine AW.regionK 0 (fun _ => none) [2, 6, 7, 8, 9, 10, 11, 13] [2] ?_
   simp only [go_sem, reduceIte, reduceCtorEq, zA, zM, zE, zL, zD, zS, zP, zB, zI, zR, yaa, yab, hlt, yax]
   repeat with_reducible refine cj ?_ ?_
   all_goals try first | omega
   refine hK18 _ _ _ ?_; clear hK18
   refine AW.nilOwn 13 200 1 rfl ?_
   refine AW.keep [2, 6, 7, 8, 9, 10, 11, 13] [2, 200] ?_
   simp only [go_sem, reduceIte, zE]
   refine AW.seq fun K19 hK19 => ?_
   refine AW.regionK 0 (fun _ => none) [2, 6, 7, 8, 9, 10, 11, 13, 14] [2, 200] ?_
   simp only [go_sem, reduceIte, reduceCtorEq, zA, zM, zE, zL, zD, zS, zP, zB, zI, zR, yaa, yab, hlt, yax]
   repeat with_reducible refine cj ?_ ?_
   all_goals try first | omega
   refine hK19 _ _ _ ?_; clear hK19
   refine AW.nilOwn 14 201 1 rfl ?_
   refine AW.keep [2, 6, 7, 8, 9, 10, 11, 13, 14] [2, 200, 201] ?_
   simp only [go_sem, reduceIte, zE]
   refine AW.seq fun K20 hK20 => ?_
   refine AW.seq fun K21 hK21 => ?_
   refine AW.regionK 0 (fun _ => none) [2, 6, 7, 8, 9, 10, 11, 13, 14, 15] [2, 200, 201] ?_
   simp only [go_sem, reduceIte, reduceCtorEq, zA, zM, zE, zL, zD, zS, zP, zB, zI, zR, yaa, yab, hlt, yax]
   repeat with_reducible refine cj ?_ ?_
   all_goals try first | omega
   refine hK21 _ _ _ ?_; clear hK21
   refine AW.block ?_
   refine AW.loopE (fun mm ee ss kk => ∃ (k g2 v2 g3 v3 g4 v4 : Nat), L.length - k = mm ∧ ee = [(2, .ptr ⟨2, g2, none⟩ 0 0), (6, .int .i64 n), (7, .rsl 1 (ya2 L)), (8, .rsl 1 (ints W)), (9, .int .i64 (cntF bel n D j + (yb5 bel n ((L.zip W).take k) ⟨[], [], B⟩).nx.length : Nat)), (10, .bool (yb5 bel n ((L.zip W).take k) ⟨[], [], B⟩).bg), (11, .int .i64 ((m : Int) - j)), (13, .sl ⟨200, g3, none⟩ 0 (yb5 bel n ((L.zip W).take k) ⟨[], [], B⟩).nx.length none), (14, .sl ⟨201, g4, none⟩ 0 (yb5 bel n ((L.zip W).take k) ⟨[], [], B⟩).sm.length none), (15, .int .i64 (k : Nat))] ∧ ss = [(2, some ⟨g2, v2, 1, [[.rsl 2 (tabR t)]]⟩), (200, some ⟨g3, v3, 1, ya2 (yb5 bel n ((L.zip W).take k) ⟨[], [], B⟩).nx⟩), (201, some ⟨g4, v4, 1, ints (yb5 bel n ((L.zip W).take k) ⟨[], [], B⟩).sm⟩)] ∧ (k ≤ L.length ∧ OkB bel n D j (yb5 bel n ((L.zip W).take k) ⟨[], [], B⟩))) ?_ ?_
   ·refine ⟨_, 0, ?_, ?_, ?_, ?_, ?_, ?_, rfl, ?henv, ?hstore, ?hst⟩
    case henv =>
     repeat' (first | rfl | refine yac ?_ ?_ | refine yae ?_ ?_ ?_ ?_ | refine yah ?_ | refine yaf ?_ | refine yai ?_ | refine yaj ?_ | refine yan ?_ ?_ ?_ | refine yak ?_ ?_ ?_ | refine yal ?_ | refine yag ?_ ?_ | refine yad ?_ ?_)
     all_goals (first | omega | (simp [yb5]; done) | rfl)
    case hstore =>
     repeat' (first | rfl | refine yac ?_ ?_ | refine yae ?_ ?_ ?_ ?_ | refine yah ?_ | refine yaf ?_ | refine yai ?_ | refine yaj ?_ | refine yan ?_ ?_ ?_ | refine yak ?_ ?_ ?_ | refine yal ?_ | refine yag ?_ ?_ | refine yad ?_ ?_)
     all_goals (first | (simp; done) | omega | (simp; omega))
    case hst =>
     exact ⟨Nat.zero_le _, by simp [OkB, yb5]; omega⟩
   rintro mm ee ss kk ⟨k, g2, v2, g3, v3, g4, v4, rfl, rfl, rfl, hI⟩
   generalize hQl3 : ya9 _ _ = Ql3
   obtain ⟨hk, hob⟩ := hI
   refine AW.seq fun K22 hK22 => ?_
   refine AW.seq fun K23 hK23 => ?_
   refine AW.regionK 0 (fun _ => none) [2, 6, 7, 8, 9, 10, 11, 13, 14, 15, 45] [2, 200, 201] ?_
   simp only [go_sem, reduceIte, reduceCtorEq, zA, zM, zE, zL, zD, zS, zP, zB, zI, zR, yaa, yab, hlt, yax]
   repeat with_reducible refine cj ?_ ?_
   all_goals try first | omega
   refine hK23 _ _ _ ?_; clear hK23
   refine AW.cond rfl (by simp only [go_sem, reduceIte, reduceCtorEq, zA, zM, zE, zL, zD, zS, zP, zB, zI, zR]) ?_ ?_
   ·intro hb
    try simp only [hB, decide_eq_true_eq, decide_eq_false_iff_not] at hb
    have hkl : k < L.length := by omega
    obtain ⟨S, hS⟩ := getI (l := L) (j := k) (by omega)
    obtain ⟨w, hw⟩ := getI (l := W) (j := k) (by omega)
    have hgS : (ya2 L).getD k [] = [.rsl 1 (yar S)] := by simp [ya2, List.getD_eq_getElem?_getD, hS]
    have hrl : (ya2 L).length = L.length := by simp [ya2]
    have hgw := yf1 hw
    have hSl := hll S (List.mem_of_getElem? hS)
    have hw0 := hok.rng w (List.mem_of_getElem? hw)
    have hrk := hrs k S w hS hw
    have hn1 := hns k S hS
    have hnt1 := hnt (k + 1)
    have hAn := hft k
    have hAo := hok2 k
    generalize hA : (yb5 bel n ((L.zip W).take k) ⟨[], [], B⟩) = A at *
    refine AW.skip ?_
    refine hK22 _ _ _ ?_; clear hK22
    refine AW.seq fun K24 hK24 => ?_
    refine AW.block ?_
    refine AW.seq fun K25 hK25 => ?_
    refine AW.regionK 0 (fun _ => none) [2, 6, 7, 8, 9, 10, 11, 13, 14, 15, 16] [2, 200, 201] ?_
    simp only [go_sem, reduceIte, reduceCtorEq, zA, zM, zE, zL, zD, zS, zP, zB, zI, zR, yaa, yab, hlt, yax]
    repeat with_reducible refine cj ?_ ?_
    all_goals try first | omega
    refine hK25 _ _ _ ?_; clear hK25
    refine AW.block ?_
    refine AW.loopE (fun mm ee ss kk => ∃ (x g2 v2 g3 v3 g4 v4 : Nat), n - x = mm ∧ ee = [(2, .ptr ⟨2, g2, none⟩ 0 0), (6, .int .i64 n), (7, .rsl 1 (ya2 L)), (8, .rsl 1 (ints W)), (9, .int .i64 (cntF bel n D j + (rS bel S w x A).nx.length : Nat)), (10, .bool (rS bel S w x A).bg), (11, .int .i64 ((m : Int) - j)), (13, .sl ⟨200, g3, none⟩ 0 (rS bel S w x A).nx.length none), (14, .sl ⟨201, g4, none⟩ 0 (rS bel S w x A).sm.length none), (15, .int .i64 (k : Nat)), (16, .int .i64 (x : Nat))] ∧ ss = [(2, some ⟨g2, v2, 1, [[.rsl 2 (tabR t)]]⟩), (200, some ⟨g3, v3, 1, ya2 (rS bel S w x A).nx⟩), (201, some ⟨g4, v4, 1, ints (rS bel S w x A).sm⟩)] ∧ (x ≤ n ∧ OkB bel n D j (rS bel S w x A))) ?_ ?_
    ·refine ⟨_, 0, ?_, ?_, ?_, ?_, ?_, ?_, rfl, ?henv, ?hstore, ?hst⟩
     case henv =>
      repeat' (first | rfl | refine yac ?_ ?_ | refine yae ?_ ?_ ?_ ?_ | refine yah ?_ | refine yaf ?_ | refine yai ?_ | refine yaj ?_ | refine yan ?_ ?_ ?_ | refine yak ?_ ?_ ?_ | refine yal ?_ | refine yag ?_ ?_ | refine yad ?_ ?_)
      all_goals (first | omega | (simp; done) | rfl)
     case hstore =>
      repeat' (first | rfl | refine yac ?_ ?_ | refine yae ?_ ?_ ?_ ?_ | refine yah ?_ | refine yaf ?_ | refine yai ?_ | refine yaj ?_ | refine yan ?_ ?_ ?_ | refine yak ?_ ?_ ?_ | refine yal ?_ | refine yag ?_ ?_ | refine yad ?_ ?_)
      all_goals (first | omega | (simp; done) | rfl)
     case hst =>
      exact ⟨Nat.zero_le _, hob⟩
    rintro mm ee ss kk ⟨x, g2, v2, g3, v3, g4, v4, rfl, rfl, rfl, hI⟩
    generalize hQl4 : ya9 _ _ = Ql4
    obtain ⟨hx, hob4⟩ := hI
    refine AW.seq fun K26 hK26 => ?_
    refine AW.seq fun K27 hK27 => ?_
    refine AW.regionK 0 (fun _ => none) [2, 6, 7, 8, 9, 10, 11, 13, 14, 15, 16, 50] [2, 200, 201] ?_
    simp only [go_sem, reduceIte, reduceCtorEq, zA, zM, zE, zL, zD, zS, zP, zB, zI, zR, yaa, yab, hlt, yax]
    repeat with_reducible refine cj ?_ ?_
    all_goals try first | omega
    refine hK27 _ _ _ ?_; clear hK27
    refine AW.cond rfl (by simp only [go_sem, reduceIte, reduceCtorEq, zA, zM, zE, zL, zD, zS, zP, zB, zI, zR]) ?_ ?_
    ·intro hb
     try simp only [hB, decide_eq_true_eq, decide_eq_false_iff_not] at hb
     have hxn : x < n := by omega
     have hrd := hready S hSl x hxn
     have hst1 : yaq bel S x = true → rS bel S w (x + 1) A = rAdd w (rS bel S w x A) (S.set x true) := fun h => yck _ h _
     have hst0 : yaq bel S x = false → rS bel S w (x + 1) A = rS bel S w x A := fun h => ycl _ h _
     have hXo := ROk.s (bel := bel) (S := S) hw0.1 x hAo
     have hXn : ∀ m, (rS bel S w m A).nx = accS bel S m A.nx := fun m => yr4 bel S w m A
     have hmono := ykc bel S A.nx (x + 1) n (by omega)
     rw [← hXn, ← hXn] at hmono
     have hfull : (rS bel S w n A).nx.length ≤ (ybt bel n L).length := by rw [hXn, hAn, ← hn1]; exact hnt1
     have hob5 : cntF bel n D j + (rS bel S w x A).nx.length ≤ 5000 := hob4
     have hPl : ∀ Z ∈ (rS bel S w x A).nx, Z.length = n := fun Z hZ => by
      rw [hXn, yi8] at hZ
      rcases hZ with h | ⟨y, _, _, rfl⟩
      ·rw [hAn, mem_nextL] at h
       obtain ⟨S2, h2, y, _, _, rfl⟩ := h
       rw [List.length_set]; exact hll S2 (List.mem_of_mem_take h2)
      ·rw [List.length_set]; exact hSl
     generalize hP : rS bel S w x A = P at *
     refine AW.skip ?_
     refine hK26 _ _ _ ?_; clear hK26
     refine AW.seq fun K28 hK28 => ?_
     have hB7 : ∀ (g2 v2 g3 v3 g4 v4 : Nat) (hq7 : OkB bel n D j (rS bel S w (x + 1) A)) (kk : Nat), K28 [(2, .ptr ⟨2, g2, none⟩ 0 0), (6, .int .i64 n), (7, .rsl 1 (ya2 L)), (8, .rsl 1 (ints W)), (9, .int .i64 (cntF bel n D j + (rS bel S w (x + 1) A).nx.length : Nat)), (10, .bool (rS bel S w (x + 1) A).bg), (11, .int .i64 ((m : Int) - j)), (13, .sl ⟨200, g3, none⟩ 0 (rS bel S w (x + 1) A).nx.length none), (14, .sl ⟨201, g4, none⟩ 0 (rS bel S w (x + 1) A).sm.length none), (15, .int .i64 (k : Nat)), (16, .int .i64 (x : Nat))] [(2, some ⟨g2, v2, 1, [[.rsl 2 (tabR t)]]⟩), (200, some ⟨g3, v3, 1, ya2 (rS bel S w (x + 1) A).nx⟩), (201, some ⟨g4, v4, 1, ints (rS bel S w (x + 1) A).sm⟩)] kk := by
      intro g2 v2 g3 v3 g4 v4 hq7 kk
      refine hK28 _ _ _ ?_; clear hK28
      refine AW.regionK 0 (fun _ => none) [2, 6, 7, 8, 9, 10, 11, 13, 14, 15, 16] [2, 200, 201] ?_
      simp only [go_sem, reduceIte, reduceCtorEq, zA, zM, zE, zL, zD, zS, zP, zB, zI, zR, yaa, yab, hlt, yax]
      repeat with_reducible refine cj ?_ ?_
      all_goals try first | omega
      rw [← hQl4]
      change Exists _
      refine ⟨_, ?hm, x + 1, ?_, ?_, ?_, ?_, ?_, ?_, rfl, ?henv, ?hstore, ?hst⟩
      case henv =>
       repeat' (first | rfl | refine yac ?_ ?_ | refine yae ?_ ?_ ?_ ?_ | refine yah ?_ | refine yaf ?_ | refine yai ?_ | refine yaj ?_ | refine yan ?_ ?_ ?_ | refine yak ?_ ?_ ?_ | refine yal ?_ | refine yag ?_ ?_ | refine yad ?_ ?_)
       all_goals (first | (simp; done) | omega | (simp; omega))
      case hstore =>
       repeat' (first | rfl | refine yac ?_ ?_ | refine yae ?_ ?_ ?_ ?_ | refine yah ?_ | refine yaf ?_ | refine yai ?_ | refine yaj ?_ | refine yan ?_ ?_ ?_ | refine yak ?_ ?_ ?_ | refine yal ?_ | refine yag ?_ ?_ | refine yad ?_ ?_)
       all_goals (first | (simp; done) | omega | (simp; omega))
      case hst =>
       exact ⟨by omega, hq7⟩
      case hm => omega
     refine AW.block ?_
     refine AW.seq fun K29 hK29 => ?_
     refine AW.seq fun K30 hK30 => ?_
     refine AW.regionD ye9 0 (fun ii => if ii = 6 then some (.reads false (.bool (yaq bel S x))) else none) [2, 6, 7, 8, 9, 10, 11, 13, 14, 15, 16, 60] [2, 200, 201] ?_
     simp only [go_sem, reduceIte, reduceCtorEq, zA, zM, zE, zL, zD, zS, zP, zB, zI, zR, yaa, yab, hlt, yax, hgS]
     repeat with_reducible refine cj ?_ ?_
     all_goals try first | (exact hrd) | omega | exact chk (by kernel_rfl) | exact ent (by kernel_rfl)
     refine hK30 _ _ _ ?_; clear hK30
     refine AW.cond rfl (by simp only [go_sem, reduceIte, reduceCtorEq, zA, zM, zE, zL, zD, zS, zP, zB, zI, zR]) ?_ ?_
     ·intro hb
      try simp only [hB, decide_eq_true_eq, decide_eq_false_iff_not] at hb
      have hf : yaq bel S x = false := by revert hb; simp
      refine AW.keep [2, 6, 7, 8, 9, 10, 11, 13, 14, 15, 16] [2, 200, 201] ?_
      try simp only [go_sem, reduceIte, reduceCtorEq, zA, zM, zE, zL, zD, zS, zP, zB, zI, zR]
      refine AW.exit ?_
      first | (rw [hst0 hf] at hB7; exact hB7 _ _ _ _ _ _ hob4 _) | exact hB7 _ _ _ _ _ _ hq7 _
     ·intro hb
      try simp only [hB, decide_eq_true_eq, decide_eq_false_iff_not] at hb
      have hf : yaq bel S x = true := by revert hb; simp
      have hadd := hst1 hf
      have hdx := ybw hf
      have hYl : (S.set x true).length = n := by rw [List.length_set]; exact hSl
      have hz : List.replicate n [AV.bool false] = yar (ycv (S.set x true) n 0) := by rw [yeg]; simp [yar]
      have hYg : ∀ i, i < n → (S.set x true).getD i false = (S.getD i false || decide ((i : Int) = (x : Int))) := fun i hi => by
       rw [yfm]
       by_cases e : x = i
       ·subst e; rw [if_pos ⟨rfl, by omega⟩]; simp
       ·rw [if_neg (fun h => e h.1), decide_eq_false (by omega)]; simp
      generalize hYd : S.set x true = Y at *
      refine AW.skip ?_
      refine hK29 _ _ _ ?_; clear hK29
      refine AW.seq fun K31 hK31 => ?_
      refine AW.regionK 0 (fun _ => none) [2, 6, 7, 8, 9, 10, 11, 13, 14, 15, 16, 17] [2, 62, 200, 201] ?_
      simp only [go_sem, reduceIte, reduceCtorEq, zA, zM, zE, zL, zD, zS, zP, zB, zI, zR, yaa, yab, hlt, yax]
      repeat with_reducible refine cj ?_ ?_
      all_goals try first | omega
      refine hK31 _ _ _ ?_; clear hK31
      refine AW.seq fun K32 hK32 => ?_
      refine AW.seq fun K33 hK33 => ?_
      refine AW.regionK 0 (fun _ => none) [2, 6, 7, 8, 9, 10, 11, 13, 14, 15, 16, 17, 18] [2, 62, 200, 201] ?_
      simp only [go_sem, reduceIte, reduceCtorEq, zA, zM, zE, zL, zD, zS, zP, zB, zI, zR, yaa, yab, hlt, yax]
      repeat with_reducible refine cj ?_ ?_
      all_goals try first | omega
      refine hK33 _ _ _ ?_; clear hK33
      refine AW.block ?_
      refine AW.loopE (fun mm ee ss kk => ∃ (i g2 v2 g3 v3 g4 v4 g5 v5 : Nat), n - i = mm ∧ ee = [(2, .ptr ⟨2, g2, none⟩ 0 0), (6, .int .i64 n), (7, .rsl 1 (ya2 L)), (8, .rsl 1 (ints W)), (9, .int .i64 (cntF bel n D j + P.nx.length : Nat)), (10, .bool P.bg), (11, .int .i64 ((m : Int) - j)), (13, .sl ⟨200, g3, none⟩ 0 P.nx.length none), (14, .sl ⟨201, g4, none⟩ 0 P.sm.length none), (15, .int .i64 (k : Nat)), (16, .int .i64 (x : Nat)), (17, .sl ⟨62, g5, none⟩ 0 n none), (18, .int .i64 (i : Nat))] ∧ ss = [(2, some ⟨g2, v2, 1, [[.rsl 2 (tabR t)]]⟩), (62, some ⟨g5, v5, 1, yar (ycv Y n i)⟩), (200, some ⟨g3, v3, 1, ya2 P.nx⟩), (201, some ⟨g4, v4, 1, ints P.sm⟩)] ∧ (i ≤ n)) ?_ ?_
      ·refine ⟨_, 0, ?_, ?_, ?_, ?_, ?_, ?_, ?_, ?_, rfl, ?henv, ?hstore, ?hst⟩
       case henv =>
        repeat' (first | rfl | refine yac ?_ ?_ | refine yae ?_ ?_ ?_ ?_ | refine yah ?_ | refine yaf ?_ | refine yai ?_ | refine yaj ?_ | refine yan ?_ ?_ ?_ | refine yak ?_ ?_ ?_ | refine yal ?_ | refine yag ?_ ?_ | refine yad ?_ ?_)
        all_goals (first | (simp; done) | omega | (simp; omega))
       case hstore =>
        repeat' (first | rfl | refine yac ?_ ?_ | refine yae ?_ ?_ ?_ ?_ | refine yah ?_ | refine yaf ?_ | refine yai ?_ | refine yaj ?_ | refine yan ?_ ?_ ?_ | refine yak ?_ ?_ ?_ | refine yal ?_ | refine yag ?_ ?_ | refine yad ?_ ?_)
        all_goals (rw [hz])
       case hst =>
        first | trivial | omega | (simp; done) | (simp; omega)
      rintro mm ee ss kk ⟨i, g2, v2, g3, v3, g4, v4, g5, v5, rfl, rfl, rfl, hI⟩
      generalize hQl5 : ya9 _ _ = Ql5
      have hfl := yfn hYl hI
      refine AW.seq fun K34 hK34 => ?_
      refine AW.seq fun K35 hK35 => ?_
      refine AW.regionK 0 (fun _ => none) [2, 6, 7, 8, 9, 10, 11, 13, 14, 15, 16, 17, 18, 65] [2, 62, 200, 201] ?_
      simp only [go_sem, reduceIte, reduceCtorEq, zA, zM, zE, zL, zD, zS, zP, zB, zI, zR, yaa, yab, hlt, yax]
      repeat with_reducible refine cj ?_ ?_
      all_goals try first | omega
      refine hK35 _ _ _ ?_; clear hK35
      refine AW.cond rfl (by simp only [go_sem, reduceIte, reduceCtorEq, zA, zM, zE, zL, zD, zS, zP, zB, zI, zR]) ?_ ?_
      ·intro hb
       try simp only [hB, decide_eq_true_eq, decide_eq_false_iff_not] at hb
       have hin : i < n := by omega
       have hgi := ybh (l := S) (i := i) (by omega)
       have hyi := hYg i hin
       have hfs := yeh hYl hin
       rw [hyi] at hfs
       refine AW.skip ?_
       refine hK34 _ _ _ ?_; clear hK34
       refine AW.seq fun K36 hK36 => ?_
       refine AW.block ?_
       refine AW.regionK 0 (fun _ => none) [2, 6, 7, 8, 9, 10, 11, 13, 14, 15, 16, 17, 18] [2, 62, 200, 201] ?_
       simp only [go_sem, reduceIte, reduceCtorEq, zA, zM, zE, zL, zD, zS, zP, zB, zI, zR, yaa, yab, hlt, yax, hgS, hgi, hfl, bools_upd, hfs]
       repeat with_reducible refine cj ?_ ?_
       all_goals try first | omega | (intros; (repeat' apply And.intro) <;> first | assumption | omega | decide) | (intro hgd; exact absurd hgd (by decide)) | rfl | (simp only [go_sem, reduceIte, reduceCtorEq, zA, zM, zE, zL, zD, zS, zP, zB, zI, zR, yaa, yab, hlt, yax, hgS, hgi, hfl, bools_upd, hfs]; done) | (intro _hgd; simp_all [go_sem]; done)
       refine hK36 _ _ _ ?_; clear hK36
       refine AW.regionK 0 (fun _ => none) [2, 6, 7, 8, 9, 10, 11, 13, 14, 15, 16, 17, 18] [2, 62, 200, 201] ?_
       simp only [go_sem, reduceIte, reduceCtorEq, zA, zM, zE, zL, zD, zS, zP, zB, zI, zR, yaa, yab, hlt, yax]
       repeat with_reducible refine cj ?_ ?_
       all_goals try first | omega
       rw [← hQl5]
       change Exists _
       refine ⟨_, ?hm, i + 1, ?_, ?_, ?_, ?_, ?_, ?_, ?_, ?_, rfl, ?henv, ?hstore, ?hst⟩
       case henv =>
        repeat' (first | rfl | refine yac ?_ ?_ | refine yae ?_ ?_ ?_ ?_ | refine yah ?_ | refine yaf ?_ | refine yai ?_ | refine yaj ?_ | refine yan ?_ ?_ ?_ | refine yak ?_ ?_ ?_ | refine yal ?_ | refine yag ?_ ?_ | refine yad ?_ ?_)
        all_goals (first | (simp; done) | omega | (simp; omega))
       case hstore =>
        repeat' (first | rfl | refine yac ?_ ?_ | refine yae ?_ ?_ ?_ ?_ | refine yah ?_ | refine yaf ?_ | refine yai ?_ | refine yaj ?_ | refine yan ?_ ?_ ?_ | refine yak ?_ ?_ ?_ | refine yal ?_ | refine yag ?_ ?_ | refine yad ?_ ?_)
        all_goals (first | (simp; done) | omega | (simp; omega))
       case hst =>
        omega
       case hm => omega
      ·intro hb
       try simp only [hB, decide_eq_true_eq, decide_eq_false_iff_not] at hb
       have hin : i = n := by omega
       rw [hin, yfo hYl]
       refine AW.keep [2, 6, 7, 8, 9, 10, 11, 13, 14, 15, 16, 17] [2, 62, 200, 201] ?_
       try simp only [go_sem, reduceIte, reduceCtorEq, zA, zM, zE, zL, zD, zS, zP, zB, zI, zR]
       refine AW.exit ?_
       rw [← hQl5]
       refine hK32 _ _ _ ?_; clear hK32
       refine AW.seq fun K37 hK37 => ?_
       refine AW.regionK 0 (fun _ => none) [2, 6, 7, 8, 9, 10, 11, 13, 14, 15, 16, 17, 19] [2, 62, 200, 201] ?_
       simp only [go_sem, reduceIte, reduceCtorEq, zA, zM, zE, zL, zD, zS, zP, zB, zI, zR, yaa, yab, hlt, yax]
       repeat with_reducible refine cj ?_ ?_
       all_goals try first | omega
       refine hK37 _ _ _ ?_; clear hK37
       refine AW.seq fun K38 hK38 => ?_
       refine AW.block ?_
       refine AW.loopE (fun mm ee ss kk => ∃ (q g2 v2 g3 v3 g4 v4 g5 v5 : Nat), P.nx.length - q = mm ∧ ee = [(2, .ptr ⟨2, g2, none⟩ 0 0), (6, .int .i64 n), (7, .rsl 1 (ya2 L)), (8, .rsl 1 (ints W)), (9, .int .i64 (cntF bel n D j + P.nx.length : Nat)), (10, .bool P.bg), (11, .int .i64 ((m : Int) - j)), (13, .sl ⟨200, g3, none⟩ 0 P.nx.length none), (14, .sl ⟨201, g4, none⟩ 0 P.sm.length none), (15, .int .i64 (k : Nat)), (16, .int .i64 (x : Nat)), (17, .sl ⟨62, g5, none⟩ 0 n none), (19, .int .i64 (q : Nat))] ∧ ss = [(2, some ⟨g2, v2, 1, [[.rsl 2 (tabR t)]]⟩), (62, some ⟨g5, v5, 1, yar Y⟩), (200, some ⟨g3, v3, 1, ya2 P.nx⟩), (201, some ⟨g4, v4, 1, ints P.sm⟩)] ∧ (q ≤ P.nx.length ∧ Y ∉ P.nx.take q)) ?_ ?_
       ·refine ⟨_, 0, ?_, ?_, ?_, ?_, ?_, ?_, ?_, ?_, rfl, ?henv, ?hstore, ?hst⟩
        case henv =>
         repeat' (first | rfl | refine yac ?_ ?_ | refine yae ?_ ?_ ?_ ?_ | refine yah ?_ | refine yaf ?_ | refine yai ?_ | refine yaj ?_ | refine yan ?_ ?_ ?_ | refine yak ?_ ?_ ?_ | refine yal ?_ | refine yag ?_ ?_ | refine yad ?_ ?_)
         all_goals (first | (simp; done) | omega | (simp; omega))
        case hstore =>
         repeat' (first | rfl | refine yac ?_ ?_ | refine yae ?_ ?_ ?_ ?_ | refine yah ?_ | refine yaf ?_ | refine yai ?_ | refine yaj ?_ | refine yan ?_ ?_ ?_ | refine yak ?_ ?_ ?_ | refine yal ?_ | refine yag ?_ ?_ | refine yad ?_ ?_)
         all_goals (first | (simp; done) | omega | (simp; omega))
        case hst =>
         exact ⟨Nat.zero_le _, by simp⟩
       rintro mm ee ss kk ⟨q, g2, v2, g3, v3, g4, v4, g5, v5, rfl, rfl, rfl, hI⟩
       generalize hQl6 : ya9 _ _ = Ql6
       obtain ⟨hq, hnot⟩ := hI
       have hrP : (ya2 P.nx).length = P.nx.length := by simp [ya2]
       have hgq : ∀ Z, P.nx[q]? = some Z → (ya2 P.nx).getD q [] = [.rsl 1 (yar Z)] := fun Z hZ => by simp [ya2, List.getD_eq_getElem?_getD, hZ]
       have hq3 : q < P.nx.length ∨ q = P.nx.length := by omega
       refine AW.seq fun K39 hK39 => ?_
       refine AW.seq fun K40 hK40 => ?_
       have hD29 : ∀  (kk : Nat), K40 [(2, .ptr ⟨2, g2, none⟩ 0 0), (6, .int .i64 n), (7, .rsl 1 (ya2 L)), (8, .rsl 1 (ints W)), (9, .int .i64 (cntF bel n D j + P.nx.length : Nat)), (10, .bool P.bg), (11, .int .i64 ((m : Int) - j)), (13, .sl ⟨200, g3, none⟩ 0 P.nx.length none), (14, .sl ⟨201, g4, none⟩ 0 P.sm.length none), (15, .int .i64 (k : Nat)), (16, .int .i64 (x : Nat)), (17, .sl ⟨62, g5, none⟩ 0 n none), (19, .int .i64 (q : Nat)), (95, .bool (decide (q < P.nx.length) && !decide (P.nx[q]? = some Y)))] [(2, some ⟨g2, v2, 1, [[.rsl 2 (tabR t)]]⟩), (62, some ⟨g5, v5, 1, yar Y⟩), (200, some ⟨g3, v3, 1, ya2 P.nx⟩), (201, some ⟨g4, v4, 1, ints P.sm⟩)] kk := by
        intro  kk
        refine hK40 _ _ _ ?_; clear hK40
        refine AW.cond rfl (by simp only [go_sem, reduceIte, reduceCtorEq, zA, zM, zE, zL, zD, zS, zP, zB, zI, zR]) ?_ ?_
        ·intro hb
         try simp only [hB, decide_eq_true_eq, decide_eq_false_iff_not] at hb
         have hb8 : q < P.nx.length ∧ P.nx[q]? ≠ some Y := by simpa using hb
         refine AW.skip ?_
         refine hK39 _ _ _ ?_; clear hK39
         refine AW.block ?_
         refine AW.regionK 0 (fun _ => none) [2, 6, 7, 8, 9, 10, 11, 13, 14, 15, 16, 17, 19] [2, 62, 200, 201] ?_
         simp only [go_sem, reduceIte, reduceCtorEq, zA, zM, zE, zL, zD, zS, zP, zB, zI, zR, yaa, yab, hlt, yax]
         repeat with_reducible refine cj ?_ ?_
         all_goals try first | omega
         rw [← hQl6]
         change Exists _
         refine ⟨_, ?hm, q + 1, ?_, ?_, ?_, ?_, ?_, ?_, ?_, ?_, rfl, ?henv, ?hstore, ?hst⟩
         case henv =>
          repeat' (first | rfl | refine yac ?_ ?_ | refine yae ?_ ?_ ?_ ?_ | refine yah ?_ | refine yaf ?_ | refine yai ?_ | refine yaj ?_ | refine yan ?_ ?_ ?_ | refine yak ?_ ?_ ?_ | refine yal ?_ | refine yag ?_ ?_ | refine yad ?_ ?_)
          all_goals (first | (simp; done) | omega | (simp; omega))
         case hstore =>
          repeat' (first | rfl | refine yac ?_ ?_ | refine yae ?_ ?_ ?_ ?_ | refine yah ?_ | refine yaf ?_ | refine yai ?_ | refine yaj ?_ | refine yan ?_ ?_ ?_ | refine yak ?_ ?_ ?_ | refine yal ?_ | refine yag ?_ ?_ | refine yad ?_ ?_)
          all_goals (first | (simp; done) | omega | (simp; omega))
         case hst =>
          refine ⟨by omega, ?_⟩
          obtain ⟨Z, hZ⟩ := getI (l := P.nx) (j := q) hb8.1
          rw [List.take_add_one, hZ]
          intro h
          rcases List.mem_append.1 h with h | h
          ·exact hnot h
          ·have : Y = Z := by simpa using h
           exact hb8.2 (by rw [this, hZ])
         case hm => omega
        ·intro hb
         try simp only [hB, decide_eq_true_eq, decide_eq_false_iff_not] at hb
         obtain ⟨hqi, hql, hqin⟩ := yp2 hnot hq hb
         have hadd2 : rS bel S w (x + 1) A = rPut (rNew P Y) q w := by rw [hadd]; unfold rAdd; rw [hqi]
         have hNo := hXo.new Y
         have hPs := hXo.len
         refine AW.keep [2, 6, 7, 8, 9, 10, 11, 13, 14, 15, 16, 17, 19] [2, 62, 200, 201] ?_
         try simp only [go_sem, reduceIte, reduceCtorEq, zA, zM, zE, zL, zD, zS, zP, zB, zI, zR]
         refine AW.exit ?_
         rw [← hQl6]
         refine hK38 _ _ _ ?_; clear hK38
         refine AW.seq fun K54 hK54 => ?_
         refine AW.seq fun K55 hK55 => ?_
         refine AW.regionK 0 (fun _ => none) [2, 6, 7, 8, 9, 10, 11, 13, 14, 15, 16, 17, 19, 101] [2, 62, 200, 201] ?_
         simp only [go_sem, reduceIte, reduceCtorEq, zA, zM, zE, zL, zD, zS, zP, zB, zI, zR, yaa, yab, hlt, yax]
         repeat with_reducible refine cj ?_ ?_
         all_goals try first | omega
         refine hK55 _ _ _ ?_; clear hK55
         have hJ9 : ∀ (g2 v2 g3 v3 g4 v4 : Nat) (hq9 : OkB bel n D j (rNew P Y)) (kk : Nat), K54 [(2, .ptr ⟨2, g2, none⟩ 0 0), (6, .int .i64 n), (7, .rsl 1 (ya2 L)), (8, .rsl 1 (ints W)), (9, .int .i64 (cntF bel n D j + (rNew P Y).nx.length : Nat)), (10, .bool (rNew P Y).bg), (11, .int .i64 ((m : Int) - j)), (13, .sl ⟨200, g3, none⟩ 0 (rNew P Y).nx.length none), (14, .sl ⟨201, g4, none⟩ 0 (rNew P Y).sm.length none), (15, .int .i64 (k : Nat)), (16, .int .i64 (x : Nat)), (19, .int .i64 (q : Nat))] [(2, some ⟨g2, v2, 1, [[.rsl 2 (tabR t)]]⟩), (200, some ⟨g3, v3, 1, ya2 (rNew P Y).nx⟩), (201, some ⟨g4, v4, 1, ints (rNew P Y).sm⟩)] kk := by
          intro g2 v2 g3 v3 g4 v4 hq9 kk
          refine hK54 _ _ _ ?_; clear hK54
          have hNl := hNo.len
          have hgq2 := ybv (l := (rNew P Y).sm) (i := q) (by omega)
          have hrq := hNo.getD q
          have hgs : ∀ v : Int, (ints ((rNew P Y).sm.set q v)).getD q [] = [.int .i64 v] := fun v => by
           rw [ybv (by rw [List.length_set]; omega)]
           simp [List.getD_eq_getElem?_getD, show q < (rNew P Y).sm.length by omega]
          have hpd : rPut (rNew P Y) q w = ⟨(rNew P Y).nx, (rNew P Y).sm.set q (capM ((rNew P Y).sm.getD q 0 + w)), (rNew P Y).bg || decide (1125899906842624 < (rNew P Y).sm.getD q 0 + w)⟩ := rfl
          have hobN : cntF bel n D j + (rNew P Y).nx.length ≤ 5000 := hq9
          rw [hadd2, hpd] at hB7
          simp only at hB7
          have hq7 : OkB bel n D j (rPut (rNew P Y) q w) := hq9
          rw [hpd] at hq7
          generalize rNew P Y = Q at *
          generalize hs : Q.sm.getD q 0 = s at *
          refine AW.seq fun K59 hK59 => ?_
          refine AW.regionD ye9 0 (fun _ => none) [2, 6, 7, 8, 9, 10, 11, 13, 14, 15, 16, 19] [2, 200, 201] ?_
          simp only [go_sem, reduceIte, reduceCtorEq, zA, zM, zE, zL, zD, zS, zP, zB, zI, zR, yaa, yab, hlt, yax, hgq2, hgw, yf0]
          repeat with_reducible refine cj ?_ ?_
          all_goals try first | omega | exact chk (by kernel_rfl)
          refine hK59 _ _ _ ?_; clear hK59
          refine AW.seq fun K60 hK60 => ?_
          refine AW.regionK 0 (fun _ => none) [2, 6, 7, 8, 9, 10, 11, 13, 14, 15, 16, 19, 129] [2, 200, 201] ?_
          simp only [go_sem, reduceIte, reduceCtorEq, zA, zM, zE, zL, zD, zS, zP, zB, zI, zR, yaa, yab, hlt, yax, hgs]
          repeat with_reducible refine cj ?_ ?_
          all_goals try first | omega
          refine hK60 _ _ _ ?_; clear hK60
          refine AW.cond rfl (by simp only [go_sem, reduceIte, reduceCtorEq, zA, zM, zE, zL, zD, zS, zP, zB, zI, zR]) ?_ ?_
          ·intro hb
           try simp only [hB, decide_eq_true_eq, decide_eq_false_iff_not] at hb
           have hcap : capM (s + w) = 1125899906842625 := by unfold capM; rw [if_pos hb]
           simp only [hcap, decide_eq_true hb, Bool.or_true, List.length_set] at hB7
           refine AW.seq fun K61 hK61 => ?_
           refine AW.regionK 0 (fun _ => none) [2, 6, 7, 8, 9, 11, 13, 14, 15, 16] [2, 200, 201] ?_
           simp only [go_sem, reduceIte, reduceCtorEq, zA, zM, zE, zL, zD, zS, zP, zB, zI, zR, yaa, yab, hlt, yax, hgs, yf0, List.set_set, List.length_set]
           repeat with_reducible refine cj ?_ ?_
           all_goals try first | omega
           refine hK61 _ _ _ ?_; clear hK61
           refine AW.regionK 0 (fun _ => none) [2, 6, 7, 8, 9, 10, 11, 13, 14, 15, 16] [2, 200, 201] ?_
           simp only [go_sem, reduceIte, reduceCtorEq, zA, zM, zE, zL, zD, zS, zP, zB, zI, zR, yaa, yab, hlt, yax]
           repeat with_reducible refine cj ?_ ?_
           all_goals try first | omega
           first | (rw [hst0 hf] at hB7; exact hB7 _ _ _ _ _ _ hob4 _) | exact hB7 _ _ _ _ _ _ hq7 _
          ·intro hb
           try simp only [hB, decide_eq_true_eq, decide_eq_false_iff_not] at hb
           have hcap : capM (s + w) = s + w := by unfold capM; rw [if_neg (by omega)]
           have hdf : decide (1125899906842624 < s + w) = false := decide_eq_false (by omega)
           simp only [hcap, hdf, Bool.or_false, List.length_set] at hB7
           refine AW.keep [2, 6, 7, 8, 9, 10, 11, 13, 14, 15, 16] [2, 200, 201] ?_
           simp only [go_sem, reduceIte, zE]
           refine AW.skip ?_
           first | (rw [hst0 hf] at hB7; exact hB7 _ _ _ _ _ _ hob4 _) | exact hB7 _ _ _ _ _ _ hq7 _
         refine AW.cond rfl (by simp only [go_sem, reduceIte, reduceCtorEq, zA, zM, zE, zL, zD, zS, zP, zB, zI, zR]) ?_ ?_
         ·intro hb
          try simp only [hB, decide_eq_true_eq, decide_eq_false_iff_not] at hb
          have hqe : q = P.nx.length := by omega
          have hYn : Y ∉ P.nx := by rwa [hqe, List.take_of_length_le (Nat.le_refl _)] at hnot
          have hnew := yl8 hYn
          have htY : Y.take n = Y := List.take_of_length_le (by omega)
          have hgl : ∀ c, (ya2 P.nx ++ [c]).getD P.nx.length [] = c := by
           intro c; rw [List.getD_eq_getElem?_getD, List.getElem?_append_right (by omega)]; simp [ya2]
          have hsl : ∀ c c', (ya2 P.nx ++ [c]).set P.nx.length c' = ya2 P.nx ++ [c'] := by
           intro c c'; rw [List.set_append_right _ _ (by omega)]; simp [ya2]
          have hra : ya2 P.nx ++ [[.rsl 1 (yar Y)]] = ya2 (P.nx ++ [Y]) := by simp [ya2]
          have htr : (ya2 P.nx).take P.nx.length = ya2 P.nx := List.take_of_length_le (by omega)
          have hts : (ints P.sm).take P.sm.length = ints P.sm := List.take_of_length_le (by rw [yaa]; omega)
          have hc9 : ((cntF bel n D j + P.nx.length : Nat) : Int) + 1 = ((cntF bel n D j + (P.nx.length + 1) : Nat) : Int) := by omega
          simp only [hnew, List.length_append, List.length_cons, List.length_nil, Nat.zero_add] at hJ9
          refine AW.seq fun K62 hK62 => ?_
          refine AW.regionK 0 (fun _ => none) [2, 6, 7, 8, 9, 10, 11, 13, 14, 15, 16, 19] [2, 62, 200, 201] ?_
          simp only [go_sem, reduceIte, reduceCtorEq, zA, zM, zE, zL, zD, zS, zP, zB, zI, zR, yaa, yab, hlt, yax, htr]
          repeat with_reducible refine cj ?_ ?_
          all_goals try first | omega | (simp [scP, ybj]; done) | exact ybc _ | exact ybm _ | exact ybd _
          refine hK62 _ _ _ ?_; clear hK62
          refine AW.frzCellK [62] 5 200 P.nx.length 0 ?_
          simp only [go_sem, reduceIte, zE, hgl, hsl, htY, List.length_append, yax, vw_boolsL]
          refine ⟨rfl, by omega, by decide, by decide, ?_⟩
          rw [hra]
          refine AW.keep [2, 6, 7, 8, 9, 10, 11, 13, 14, 15, 16, 19] [2, 200, 201] ?_
          simp only [go_sem, reduceIte, zE]
          refine AW.seq fun K63 hK63 => ?_
          refine AW.regionK 0 (fun _ => none) [2, 6, 7, 8, 9, 10, 11, 13, 14, 15, 16, 19] [2, 200, 201] ?_
          simp only [go_sem, reduceIte, reduceCtorEq, zA, zM, zE, zL, zD, zS, zP, zB, zI, zR, yaa, yab, hlt, yax, hts, ydm]
          repeat with_reducible refine cj ?_ ?_
          all_goals try first | omega | (simp [scP, ybj]; done) | exact ybc _ | exact ybm _ | exact ybd _
          refine hK63 _ _ _ ?_; clear hK63
          refine AW.seq fun K64 hK64 => ?_
          refine AW.regionK 0 (fun _ => none) [2, 6, 7, 8, 9, 10, 11, 13, 14, 15, 16, 19] [2, 200, 201] ?_
          simp only [go_sem, reduceIte, reduceCtorEq, zA, zM, zE, zL, zD, zS, zP, zB, zI, zR, yaa, yab, hlt, yax, hc9]
          repeat with_reducible refine cj ?_ ?_
          all_goals try first | omega
          refine hK64 _ _ _ ?_; clear hK64
          refine AW.seq fun K65 hK65 => ?_
          refine AW.regionK 0 (fun _ => none) [2, 6, 7, 8, 9, 10, 11, 13, 14, 15, 16, 19, 112] [2, 200, 201] ?_
          simp only [go_sem, reduceIte, reduceCtorEq, zA, zM, zE, zL, zD, zS, zP, zB, zI, zR, yaa, yab, hlt, yax]
          repeat with_reducible refine cj ?_ ?_
          all_goals try first | omega
          refine hK65 _ _ _ ?_; clear hK65
          refine AW.cond rfl (by simp only [go_sem, reduceIte, reduceCtorEq, zA, zM, zE, zL, zD, zS, zP, zB, zI, zR]) ?_ ?_
          ·intro hb
           try simp only [hB, decide_eq_true_eq, decide_eq_false_iff_not] at hb
           refine AW.seq fun K66 hK66 => ?_
           refine AW.regionK 0 (fun _ => none) [4, 5] [2, 200, 201] ?_
           simp only [go_sem, reduceIte, reduceCtorEq, zA, zM, zE, zL, zD, zS, zP, zB, zI, zR, yaa, yab, hlt, yax]
           repeat with_reducible refine cj ?_ ?_
           all_goals try first | omega
           refine hK66 _ _ _ ?_; clear hK66
           refine AW.ret ?_
           rw [← hQl4]
           rw [← hQl3]
           rw [← hQl2]
           rw [← hQr]
           simp only [go_sem, reduceIte, reduceCtorEq, zA, zM, zE, zL, zD, zS, zP, zB, zI, zR, yaa, yab, hlt, yax]
           exact Wk.refl _
          ·intro hb
           try simp only [hB, decide_eq_true_eq, decide_eq_false_iff_not] at hb
           have hq9 : OkB bel n D j (rNew P Y) := by
            rw [hnew]
            simp only [OkB, List.length_append, List.length_cons, List.length_nil]
            omega
           rw [hnew] at hq9
           refine AW.keep [2, 6, 7, 8, 9, 10, 11, 13, 14, 15, 16, 19] [2, 200, 201] ?_
           simp only [go_sem, reduceIte, zE]
           refine AW.skip ?_
           exact hJ9 _ _ _ _ _ _ hq9 _
         ·intro hb
          try simp only [hB, decide_eq_true_eq, decide_eq_false_iff_not] at hb
          have hYi : Y ∈ P.nx := hqin (by omega)
          have hnew := yoe hYi
          simp only [hnew] at hJ9
          have hq9 := hob4
          refine AW.keep [2, 6, 7, 8, 9, 10, 11, 13, 14, 15, 16, 19] [2, 200, 201] ?_
          try simp only [go_sem, reduceIte, reduceCtorEq, zA, zM, zE, zL, zD, zS, zP, zB, zI, zR]
          refine AW.skip ?_
          exact hJ9 _ _ _ _ _ _ hq9 _
       rcases hq3 with hqlt | hqeq
       ·-- region 29
        obtain ⟨Z, hZ⟩ := getI (l := P.nx) (j := q) hqlt
        have htY : Y.take n = Y := List.take_of_length_le (by omega)
        have hgx := hgq Z hZ
        have hZl : Z.length = n := hPl Z (List.mem_of_getElem? hZ)
        have hsm := Reads.flat (yp0 Z Y (by omega) (by omega)) rfl
        have hev : (decide ((q : Int) < (P.nx.length : Int)) && !decide (Z = Y)) = (decide (q < P.nx.length) && !decide (P.nx[q]? = some Y)) := by rw [hZ]; simp
        rw [← hev] at hD29
        refine AW.regionK 0 (fun ii => if ii = 10 then some (.reads true (.bool (decide (Z = Y)))) else none) [2, 6, 7, 8, 9, 10, 11, 13, 14, 15, 16, 17, 19, 95] [2, 62, 200, 201] ?_
        simp only [go_sem, reduceIte, reduceCtorEq, zA, zM, zE, zL, zD, zS, zP, zB, zI, zR, yaa, yab, hlt, yax, hgx, vw_boolsL, htY]
        repeat with_reducible refine cj ?_ ?_
        all_goals try first | (first | exact fun hh => ⟨hh, hsm⟩ | (intro hh; refine ⟨hh, hh, ?_, ?_⟩ <;> (simp only [decide_eq_true_eq] at hh; omega)) | (intro hh; exfalso; simp only [decide_eq_true_eq] at hh; omega) | (apply decide_eq_false; omega)) | (intros; (repeat' apply And.intro) <;> first | assumption | (first | exact fun hh => ⟨hh, hsm⟩ | (intro hh; refine ⟨hh, hh, ?_, ?_⟩ <;> (simp only [decide_eq_true_eq] at hh; omega)) | (intro hh; exfalso; simp only [decide_eq_true_eq] at hh; omega) | (apply decide_eq_false; omega))) | omega | exact ent (by kernel_rfl) | (intro hgd; exact absurd hgd (by decide)) | rfl | (simp only [go_sem, reduceIte, reduceCtorEq, zA, zM, zE, zL, zD, zS, zP, zB, zI, zR, yaa, yab, hlt, yax, hgx, vw_boolsL, htY]; done) | (intro _hgd; simp_all [go_sem]; done)
        exact hD29 _
       ·-- region 29
        have htY : Y.take n = Y := List.take_of_length_le (by omega)
        have hgx : (ya2 P.nx).getD q [] = [] := by rw [List.getD_eq_getElem?_getD, List.getElem?_eq_none (by omega)]; rfl
        have hev : false = (decide (q < P.nx.length) && !decide (P.nx[q]? = some Y)) := by rw [show decide (q < P.nx.length) = false from decide_eq_false (by omega)]; rfl
        rw [← hev] at hD29
        refine AW.regionK 0 (fun ii => if ii = 10 then some (.reads true .any) else none) [2, 6, 7, 8, 9, 10, 11, 13, 14, 15, 16, 17, 19, 95] [2, 62, 200, 201] ?_
        simp only [go_sem, reduceIte, reduceCtorEq, zA, zM, zE, zL, zD, zS, zP, zB, zI, zR, yaa, yab, hlt, yax, hgx, vw_boolsL, htY]
        repeat with_reducible refine cj ?_ ?_
        all_goals try first | (first | exact fun hh => ⟨hh, hsm⟩ | (intro hh; refine ⟨hh, hh, ?_, ?_⟩ <;> (simp only [decide_eq_true_eq] at hh; omega)) | (intro hh; exfalso; simp only [decide_eq_true_eq] at hh; omega) | (apply decide_eq_false; omega)) | (intros; (repeat' apply And.intro) <;> first | assumption | (first | exact fun hh => ⟨hh, hsm⟩ | (intro hh; refine ⟨hh, hh, ?_, ?_⟩ <;> (simp only [decide_eq_true_eq] at hh; omega)) | (intro hh; exfalso; simp only [decide_eq_true_eq] at hh; omega) | (apply decide_eq_false; omega))) | omega | exact ent (by kernel_rfl) | (intro hgd; exact absurd hgd (by decide)) | rfl | (simp only [go_sem, reduceIte, reduceCtorEq, zA, zM, zE, zL, zD, zS, zP, zB, zI, zR, yaa, yab, hlt, yax, hgx, vw_boolsL, htY]; done) | (intro _hgd; simp_all [go_sem]; done)
        exact hD29 _
    ·intro hb
     try simp only [hB, decide_eq_true_eq, decide_eq_false_iff_not] at hb
     have hxn : n = x := by omega
     subst hxn
     rw [← hrk] at hob4 ⊢
     refine AW.keep [2, 6, 7, 8, 9, 10, 11, 13, 14, 15] [2, 200, 201] ?_
     try simp only [go_sem, reduceIte, reduceCtorEq, zA, zM, zE, zL, zD, zS, zP, zB, zI, zR]
     refine AW.exit ?_
     rw [← hQl4]
     refine hK24 _ _ _ ?_; clear hK24
     refine AW.regionK 0 (fun _ => none) [2, 6, 7, 8, 9, 10, 11, 13, 14, 15] [2, 200, 201] ?_
     simp only [go_sem, reduceIte, reduceCtorEq, zA, zM, zE, zL, zD, zS, zP, zB, zI, zR, yaa, yab, hlt, yax]
     repeat with_reducible refine cj ?_ ?_
     all_goals try first | omega
     rw [← hQl3]
     change Exists _
     refine ⟨_, ?hm, k + 1, ?_, ?_, ?_, ?_, ?_, ?_, rfl, ?henv, ?hstore, ?hst⟩
     case henv =>
      repeat' (first | rfl | refine yac ?_ ?_ | refine yae ?_ ?_ ?_ ?_ | refine yah ?_ | refine yaf ?_ | refine yai ?_ | refine yaj ?_ | refine yan ?_ ?_ ?_ | refine yak ?_ ?_ ?_ | refine yal ?_ | refine yag ?_ ?_ | refine yad ?_ ?_)
      all_goals (first | (simp; done) | omega | (simp; omega))
     case hstore =>
      repeat' (first | rfl | refine yac ?_ ?_ | refine yae ?_ ?_ ?_ ?_ | refine yah ?_ | refine yaf ?_ | refine yai ?_ | refine yaj ?_ | refine yan ?_ ?_ ?_ | refine yak ?_ ?_ ?_ | refine yal ?_ | refine yag ?_ ?_ | refine yad ?_ ?_)
      all_goals (first | (simp; done) | omega | (simp; omega))
     case hst =>
      exact ⟨by omega, hob4⟩
     case hm => omega
   ·intro hb
    try simp only [hB, decide_eq_true_eq, decide_eq_false_iff_not] at hb
    have hkl : k = L.length := by omega
    have hzl : (L.zip W).take k = L.zip W := List.take_of_length_le (by rw [List.length_zip]; omega)
    rw [hzl, ← hsucc] at hob ⊢
    have hn2 := yka bel n D (j + 1)
    have hok3 := (yiu bel n D (j + 1)).len
    have htr : (ya2 (rIt bel n D (j + 1)).nx).take (rIt bel n D (j + 1)).nx.length = ya2 (rIt bel n D (j + 1)).nx := List.take_of_length_le (by rw [yax]; omega)
    have hts : (rIt bel n D (j + 1)).sm.take (rIt bel n D (j + 1)).sm.length = (rIt bel n D (j + 1)).sm := List.take_of_length_le (Nat.le_refl _)
    have hcs2 : cntF bel n D (j + 1) = cntF bel n D j + (rIt bel n D (j + 1)).nx.length := by rw [hn2]; rfl
    refine AW.keep [2, 6, 9, 10, 11, 13, 14] [2, 200, 201] ?_
    try simp only [go_sem, reduceIte, reduceCtorEq, zA, zM, zE, zL, zD, zS, zP, zB, zI, zR]
    refine AW.exit ?_
    rw [← hQl3]
    refine hK20 _ _ _ ?_; clear hK20
    refine AW.regionK 0 (fun _ => none) [2, 6, 7, 8, 9, 10, 11] [2, 200, 201] ?_
    simp only [go_sem, reduceIte, reduceCtorEq, zA, zM, zE, zL, zD, zS, zP, zB, zI, zR, yaa, yab, hlt, yax]
    repeat with_reducible refine cj ?_ ?_
    all_goals try first | omega
    refine hK17 _ _ _ ?_; clear hK17
    refine AW.freezeK [200, 201] [7, 8] [2, 6, 9, 10, 11] [2] ?_
    simp only [go_sem, reduceIte, zE, htr, hts]
    refine AW.regionK 0 (fun _ => none) [2, 6, 7, 8, 9, 10, 11] [2] ?_
    simp only [go_sem, reduceIte, reduceCtorEq, zA, zM, zE, zL, zD, zS, zP, zB, zI, zR, yaa, yab, hlt, yax]
    repeat with_reducible refine cj ?_ ?_
    all_goals try first | omega
    rw [← hQl2]
    change Exists _
    refine ⟨_, ?hm, j + 1, ?_, ?_, rfl, ?henv, ?hstore, ?hst⟩
    case henv =>
     repeat' (first | rfl | refine yac ?_ ?_ | refine yae ?_ ?_ ?_ ?_ | refine yah ?_ | refine yaf ?_ | refine yai ?_ | refine yaj ?_ | refine yan ?_ ?_ ?_ | refine yak ?_ ?_ ?_ | refine yal ?_ | refine yag ?_ ?_ | refine yad ?_ ?_)
     all_goals (first | omega | (rw [hcs2]) | (simp; done) | rfl)
    case hstore =>
     repeat' (first | rfl | refine yac ?_ ?_ | refine yae ?_ ?_ ?_ ?_ | refine yah ?_ | refine yaf ?_ | refine yai ?_ | refine yaj ?_ | refine yan ?_ ?_ ?_ | refine yak ?_ ?_ ?_ | refine yal ?_ | refine yag ?_ ?_ | refine yad ?_ ?_)
     all_goals (first | (simp; done) | omega | (simp; omega))
    case hst =>
     exact ⟨by omega, by rw [hcs2]; exact hob⟩
    case hm => omega
  ·intro hb
   try simp only [hB, decide_eq_true_eq, decide_eq_false_iff_not] at hb
   exfalso; have hjm : j = m := by omega
   rw [hjm] at hc; omega
theorem rest_in (n : Nat) (t : List (List Bool)) (hs : Sq n t) (hn : n ≤ 512) (D : List Bool) (hDl : D.length = n) (m : Nat) (hm : cntT D + m = n) (hbud : cntF (belL n t) n D m ≤ 5000) (hsl1 : (rIt (belL n t) n D m).sm.length = 1) :
  Reads Tryd.prog 46 false [relB t, .rsl 1 (yar D)] (.tup [.int .i64 (if (rIt (belL n t) n D m).bg then 0 else (rIt (belL n t) n D m).sm.getD 0 0), .int .i64 (if (rIt (belL n t) n D m).bg then 9 else 0)]) := by
 have hlt : (tabR t).length = n := by rw [ycu, hs.len]
 have hready := fun d hd x hx => yi9 n t hs hn d hd x hx
 have hcnt : D.countP (!·) = m := by
  have h1 := List.length_eq_countP_add_countP (p := id) (l := D)
  unfold cntT at hm
  have h2 : D.countP (!·) = D.countP (fun a => decide (¬ id a = true)) := by congr 1; funext b; cases b <;> rfl
  omega
 unfold relB at *
 generalize belL n t = bel at *
 refine Reads.body (rs := [.tmp 4, .tmp 5]) Tryd.func46 rfl Tryd.ntmps46 rfl (by simp) ?_
 generalize hQr : retQ _ _ _ = Qr
 refine AW.seq fun K1 hK1 => ?_
 refine AW.regionK 0 (fun _ => none) [1, 2] [2] ?_
 simp only [go_sem, reduceIte, reduceCtorEq, zA, zM, zE, zL, zD, zS, zP, zB, zI, zR, yaa, yab, hlt, yax]
 repeat with_reducible refine cj ?_ ?_
 all_goals try first | omega
 refine hK1 _ _ _ ?_; clear hK1
 refine AW.seq fun K2 hK2 => ?_
 refine AW.regionK 0 (fun _ => none) [1, 2, 6] [2] ?_
 simp only [go_sem, reduceIte, reduceCtorEq, zA, zM, zE, zL, zD, zS, zP, zB, zI, zR, yaa, yab, hlt, yax]
 repeat with_reducible refine cj ?_ ?_
 all_goals try first | omega
 refine hK2 _ _ _ ?_; clear hK2
 refine AW.seq fun K3 hK3 => ?_
 refine AW.regionK 0 (fun _ => none) [1, 2, 6, 7] [2, 24] ?_
 simp only [go_sem, reduceIte, reduceCtorEq, zA, zM, zE, zL, zD, zS, zP, zB, zI, zR, yaa, yab, hlt, yax]
 repeat with_reducible refine cj ?_ ?_
 all_goals try first | omega
 refine hK3 _ _ _ ?_; clear hK3
 refine AW.seq fun K4 hK4 => ?_
 refine AW.regionK 0 (fun _ => none) [1, 2, 6, 7, 8] [2, 24, 25] ?_
 simp only [go_sem, reduceIte, reduceCtorEq, zA, zM, zE, zL, zD, zS, zP, zB, zI, zR, yaa, yab, hlt, yax]
 repeat with_reducible refine cj ?_ ?_
 all_goals try first | omega
 refine hK4 _ _ _ ?_; clear hK4
 refine AW.freezeK [24, 25] [7, 8] [1, 2, 6] [2] ?_
 simp only [go_sem, reduceIte, zE]
 refine AW.seq fun K5 hK5 => ?_
 refine AW.regionK 0 (fun _ => none) [1, 2, 6, 7, 8, 9] [2] ?_
 simp only [go_sem, reduceIte, reduceCtorEq, zA, zM, zE, zL, zD, zS, zP, zB, zI, zR, yaa, yab, hlt, yax]
 repeat with_reducible refine cj ?_ ?_
 all_goals try first | omega
 refine hK5 _ _ _ ?_; clear hK5
 refine AW.seq fun K6 hK6 => ?_
 refine AW.regionK 0 (fun _ => none) [1, 2, 6, 7, 8, 9, 10] [2] ?_
 simp only [go_sem, reduceIte, reduceCtorEq, zA, zM, zE, zL, zD, zS, zP, zB, zI, zR, yaa, yab, hlt, yax]
 repeat with_reducible refine cj ?_ ?_
 all_goals try first | omega
 refine hK6 _ _ _ ?_; clear hK6
 refine AW.seq fun K7 hK7 => ?_
 refine AW.regionK 0 (fun _ => none) [1, 2, 6, 7, 8, 9, 10, 11] [2] ?_
 simp only [go_sem, reduceIte, reduceCtorEq, zA, zM, zE, zL, zD, zS, zP, zB, zI, zR, yaa, yab, hlt, yax]
 repeat with_reducible refine cj ?_ ?_
 all_goals try first | omega
 refine hK7 _ _ _ ?_; clear hK7
 refine AW.seq fun K8 hK8 => ?_
 refine AW.seq fun K9 hK9 => ?_
 refine AW.regionK 0 (fun _ => none) [1, 2, 6, 7, 8, 9, 10, 11, 12] [2] ?_
 simp only [go_sem, reduceIte, reduceCtorEq, zA, zM, zE, zL, zD, zS, zP, zB, zI, zR, yaa, yab, hlt, yax]
 repeat with_reducible refine cj ?_ ?_
 all_goals try first | omega
 refine hK9 _ _ _ ?_; clear hK9
 refine AW.block ?_
 refine AW.loopE (fun mm ee ss kk => ∃ (i g2 v2 : Nat), n - i = mm ∧ ee = [(1, .rsl 1 (yar D)), (2, .ptr ⟨2, g2, none⟩ 0 0), (6, .int .i64 n), (7, .rsl 1 [[.rsl 1 (yar D)]]), (8, .rsl 1 [[.int .i64 1]]), (9, .int .i64 1), (10, .bool false), (11, .int .i64 ((D.take i).countP (!·) : Nat)), (12, .int .i64 (i : Nat))] ∧ ss = [(2, some ⟨g2, v2, 1, [[.rsl 2 (tabR t)]]⟩)] ∧ (i ≤ n)) ?_ ?_
 ·refine ⟨_, 0, ?_, ?_, rfl, ?henv, ?hstore, ?hst⟩
  case henv =>
   repeat' (first | rfl | refine yac ?_ ?_ | refine yae ?_ ?_ ?_ ?_ | refine yah ?_ | refine yaf ?_ | refine yai ?_ | refine yaj ?_ | refine yan ?_ ?_ ?_ | refine yak ?_ ?_ ?_ | refine yal ?_ | refine yag ?_ ?_ | refine yad ?_ ?_)
   all_goals (first | (simp; done) | omega | (simp; omega))
  case hstore =>
   repeat' (first | rfl | refine yac ?_ ?_ | refine yae ?_ ?_ ?_ ?_ | refine yah ?_ | refine yaf ?_ | refine yai ?_ | refine yaj ?_ | refine yan ?_ ?_ ?_ | refine yak ?_ ?_ ?_ | refine yal ?_ | refine yag ?_ ?_ | refine yad ?_ ?_)
   all_goals (first | (simp; done) | omega | (simp; omega))
  case hst =>
   first | trivial | omega | (simp; done) | (simp; omega)
 rintro mm ee ss kk ⟨i, g2, v2, rfl, rfl, rfl, hI⟩
 generalize hQl1 : ya9 _ _ = Ql1
 have hcl : (D.take i).countP (!·) ≤ 512 := Nat.le_trans List.countP_le_length (by simp; omega)
 refine AW.seq fun K10 hK10 => ?_
 refine AW.seq fun K11 hK11 => ?_
 refine AW.regionK 0 (fun _ => none) [1, 2, 6, 7, 8, 9, 10, 11, 12, 28] [2] ?_
 simp only [go_sem, reduceIte, reduceCtorEq, zA, zM, zE, zL, zD, zS, zP, zB, zI, zR, yaa, yab, hlt, yax]
 repeat with_reducible refine cj ?_ ?_
 all_goals try first | omega
 refine hK11 _ _ _ ?_; clear hK11
 refine AW.cond rfl (by simp only [go_sem, reduceIte, reduceCtorEq, zA, zM, zE, zL, zD, zS, zP, zB, zI, zR]) ?_ ?_
 ·intro hb
  try simp only [hB, decide_eq_true_eq, decide_eq_false_iff_not] at hb
  have hin : i < n := by omega
  have hgi := ybh (l := D) (i := i) (by omega)
  have htk : D.take (i + 1) = D.take i ++ [D.getD i false] := by rw [List.take_add_one, List.getElem?_eq_getElem (by omega)]; simp [List.getD_eq_getElem?_getD, List.getElem?_eq_getElem (show i < D.length by omega)]
  have hct : (D.take (i + 1)).countP (!·) = (D.take i).countP (!·) + (if D.getD i false then 0 else 1) := by rw [htk, List.countP_append]; cases D.getD i false <;> simp
  refine AW.skip ?_
  refine hK10 _ _ _ ?_; clear hK10
  refine AW.seq fun K12 hK12 => ?_
  refine AW.block ?_
  refine AW.seq fun K13 hK13 => ?_
  refine AW.regionK 0 (fun _ => none) [1, 2, 6, 7, 8, 9, 10, 11, 12, 35] [2] ?_
  simp only [go_sem, reduceIte, reduceCtorEq, zA, zM, zE, zL, zD, zS, zP, zB, zI, zR, yaa, yab, hlt, yax, hgi]
  repeat with_reducible refine cj ?_ ?_
  all_goals try first | omega
  refine hK13 _ _ _ ?_; clear hK13
  have hJ2 : ∀ (z : Nat) (kk : Nat), K12 [(1, .rsl 1 (yar D)), (2, .ptr ⟨2, g2, none⟩ 0 0), (6, .int .i64 n), (7, .rsl 1 [[.rsl 1 (yar D)]]), (8, .rsl 1 [[.int .i64 1]]), (9, .int .i64 1), (10, .bool false), (11, .int .i64 ((D.take (i + 1)).countP (!·) : Nat)), (12, .int .i64 (i : Nat))] [(2, some ⟨g2, v2, 1, [[.rsl 2 (tabR t)]]⟩)] kk := by
   intro z kk
   refine hK12 _ _ _ ?_; clear hK12
   refine AW.regionK 0 (fun _ => none) [1, 2, 6, 7, 8, 9, 10, 11, 12] [2] ?_
   simp only [go_sem, reduceIte, reduceCtorEq, zA, zM, zE, zL, zD, zS, zP, zB, zI, zR, yaa, yab, hlt, yax]
   repeat with_reducible refine cj ?_ ?_
   all_goals try first | omega
   rw [← hQl1]
   change Exists _
   refine ⟨_, ?hm, i + 1, ?_, ?_, rfl, ?henv, ?hstore, ?hst⟩
   case henv =>
    repeat' (first | rfl | refine yac ?_ ?_ | refine yae ?_ ?_ ?_ ?_ | refine yah ?_ | refine yaf ?_ | refine yai ?_ | refine yaj ?_ | refine yan ?_ ?_ ?_ | refine yak ?_ ?_ ?_ | refine yal ?_ | refine yag ?_ ?_ | refine yad ?_ ?_)
    all_goals (first | (simp; done) | omega | (simp; omega))
   case hstore =>
    repeat' (first | rfl | refine yac ?_ ?_ | refine yae ?_ ?_ ?_ ?_ | refine yah ?_ | refine yaf ?_ | refine yai ?_ | refine yaj ?_ | refine yan ?_ ?_ ?_ | refine yak ?_ ?_ ?_ | refine yal ?_ | refine yag ?_ ?_ | refine yad ?_ ?_)
    all_goals (first | (simp; done) | omega | (simp; omega))
   case hst =>
    omega
   case hm => omega
  refine AW.cond rfl (by simp only [go_sem, reduceIte, reduceCtorEq, zA, zM, zE, zL, zD, zS, zP, zB, zI, zR]) ?_ ?_
  ·intro hb
   try simp only [hB, decide_eq_true_eq, decide_eq_false_iff_not] at hb
   have hd : D.getD i false = false := by revert hb; simp
   rw [hct, hd] at hJ2
   simp only [Bool.false_eq_true, if_false] at hJ2
   refine AW.regionK 0 (fun _ => none) [1, 2, 6, 7, 8, 9, 10, 11, 12] [2] ?_
   simp only [go_sem, reduceIte, reduceCtorEq, zA, zM, zE, zL, zD, zS, zP, zB, zI, zR, yaa, yab, hlt, yax]
   repeat with_reducible refine cj ?_ ?_
   all_goals try first | omega
   exact hJ2 0 _
  ·intro hb
   try simp only [hB, decide_eq_true_eq, decide_eq_false_iff_not] at hb
   have hd : D.getD i false = true := by revert hb; simp
   rw [hct, hd] at hJ2
   simp only [if_true, Nat.add_zero] at hJ2
   refine AW.keep [1, 2, 6, 7, 8, 9, 10, 11, 12] [2] ?_
   try simp only [go_sem, reduceIte, reduceCtorEq, zA, zM, zE, zL, zD, zS, zP, zB, zI, zR]
   refine AW.skip ?_
   exact hJ2 0 _
 ·intro hb
  try simp only [hB, decide_eq_true_eq, decide_eq_false_iff_not] at hb
  have hin : n = i := by omega
  subst hin
  rw [List.take_of_length_le (by omega), hcnt]
  refine AW.keep [2, 6, 7, 8, 9, 10, 11] [2] ?_
  try simp only [go_sem, reduceIte, reduceCtorEq, zA, zM, zE, zL, zD, zS, zP, zB, zI, zR]
  refine AW.exit ?_
  rw [← hQl1]
  refine hK8 _ _ _ ?_; clear hK8
  refine AW.seq fun K14 hK14 => ?_
  refine AW.block ?_
  refine AW.loopE (fun mm ee ss kk => ∃ (j g2 v2 : Nat), m - j = mm ∧ ee = [(2, .ptr ⟨2, g2, none⟩ 0 0), (6, .int .i64 n), (7, .rsl 1 (ya2 (rIt bel n D j).nx)), (8, .rsl 1 (ints (rIt bel n D j).sm)), (9, .int .i64 (cntF bel n D j : Nat)), (10, .bool (rIt bel n D j).bg), (11, .int .i64 ((m : Int) - j))] ∧ ss = [(2, some ⟨g2, v2, 1, [[.rsl 2 (tabR t)]]⟩)] ∧ (j ≤ m ∧ cntF bel n D j ≤ 5000)) ?_ ?_
  ·refine ⟨_, 0, ?_, ?_, rfl, ?henv, ?hstore, ?hst⟩
   case henv =>
    repeat' (first | rfl | refine yac ?_ ?_ | refine yae ?_ ?_ ?_ ?_ | refine yah ?_ | refine yaf ?_ | refine yai ?_ | refine yaj ?_ | refine yan ?_ ?_ ?_ | refine yak ?_ ?_ ?_ | refine yal ?_ | refine yag ?_ ?_ | refine yad ?_ ?_)
    all_goals (first | omega | (simp; done) | rfl)
   case hstore =>
    repeat' (first | rfl | refine yac ?_ ?_ | refine yae ?_ ?_ ?_ ?_ | refine yah ?_ | refine yaf ?_ | refine yai ?_ | refine yaj ?_ | refine yan ?_ ?_ ?_ | refine yak ?_ ?_ ?_ | refine yal ?_ | refine yag ?_ ?_ | refine yad ?_ ?_)
    all_goals (first | (simp; done) | omega | (simp; omega))
   case hst =>
    exact ⟨by omega, by simp [cntF]⟩
  rintro mm ee ss kk ⟨j, g2, v2, rfl, rfl, rfl, hI⟩
  generalize hQl2 : ya9 _ _ = Ql2
  obtain ⟨hj, hc⟩ := hI
  refine AW.seq fun K15 hK15 => ?_
  refine AW.seq fun K16 hK16 => ?_
  refine AW.regionK 0 (fun _ => none) [2, 6, 7, 8, 9, 10, 11, 39] [2] ?_
  simp only [go_sem, reduceIte, reduceCtorEq, zA, zM, zE, zL, zD, zS, zP, zB, zI, zR, yaa, yab, hlt, yax]
  repeat with_reducible refine cj ?_ ?_
  all_goals try first | omega
  refine hK16 _ _ _ ?_; clear hK16
  refine AW.cond rfl (by simp only [go_sem, reduceIte, reduceCtorEq, zA, zM, zE, zL, zD, zS, zP, zB, zI, zR]) ?_ ?_
  ·intro hb
   try simp only [hB, decide_eq_true_eq, decide_eq_false_iff_not] at hb
   have hjm : j < m := by omega
   have hok := yiu bel n D j
   have hnx := yka bel n D j
   have hll := fun S (hS : S ∈ (rIt bel n D j).nx) => yc6 (bel := bel) (n := n) hDl (j := j) (by rw [← hnx]; exact hS)
   have hsucc : rIt bel n D (j + 1) = yb5 bel n ((rIt bel n D j).nx.zip (rIt bel n D j).sm) ⟨[], [], (rIt bel n D j).bg⟩ := rfl
   have hcs : cntF bel n D (j + 1) = cntF bel n D j + (ybt bel n (rIt bel n D j).nx).length := by rw [hnx]; rfl
   have hcm := ykb bel n D (j + 1) m (by omega)
   have hle := yno bel n D j
   rw [← hnx] at hle
   have hnt := yf5 bel n (rIt bel n D j).nx
   have hns := fun k S => yf6 bel n (prev := (rIt bel n D j).nx) (k := k) (S := S)
   clear hnx
   generalize rIt bel n D j = R at *
   obtain ⟨L, W, B⟩ := R
   simp only at *
   have hLW : L.length = W.length := hok.len
   have hft := fun k => yk4 bel n hLW k B
   have hok2 := fun k => hok.ftake (bel := bel) (n := n) k B
   have hrs := fun k S w h1 h2 => yk3 bel n (L := L) (W := W) (k := k) (S := S) (w := w) h1 h2 ⟨[], [], B⟩
   simp only at hok2
   refine AW.skip ?_
   refine hK15 _ _ _ ?_; clear hK15
   refine AW.seq fun K17 hK17 => ?_
   refine AW.block ?_
   refine AW.seq fun K18 hK18 => ?_
   refine AW.regionK 0 (fun _ => none) [2, 6, 7, 8, 9, 10, 11, 13] [2] ?_
   simp only [go_sem, reduceIte, reduceCtorEq, zA, zM, zE, zL, zD, zS, zP, zB, zI, zR, yaa, yab, hlt, yax]
   repeat with_reducible refine cj ?_ ?_
   all_goals try first | omega
   refine hK18 _ _ _ ?_; clear hK18
   refine AW.nilOwn 13 200 1 rfl ?_
   refine AW.keep [2, 6, 7, 8, 9, 10, 11, 13] [2, 200] ?_
   simp only [go_sem, reduceIte, zE]
   refine AW.seq fun K19 hK19 => ?_
   refine AW.regionK 0 (fun _ => none) [2, 6, 7, 8, 9, 10, 11, 13, 14] [2, 200] ?_
   simp only [go_sem, reduceIte, reduceCtorEq, zA, zM, zE, zL, zD, zS, zP, zB, zI, zR, yaa, yab, hlt, yax]
   repeat with_reducible refine cj ?_ ?_
   all_goals try first | omega
   refine hK19 _ _ _ ?_; clear hK19
   refine AW.nilOwn 14 201 1 rfl ?_
   refine AW.keep [2, 6, 7, 8, 9, 10, 11, 13, 14] [2, 200, 201] ?_
   simp only [go_sem, reduceIte, zE]
   refine AW.seq fun K20 hK20 => ?_
   refine AW.seq fun K21 hK21 => ?_
   refine AW.regionK 0 (fun _ => none) [2, 6, 7, 8, 9, 10, 11, 13, 14, 15] [2, 200, 201] ?_
   simp only [go_sem, reduceIte, reduceCtorEq, zA, zM, zE, zL, zD, zS, zP, zB, zI, zR, yaa, yab, hlt, yax]
   repeat with_reducible refine cj ?_ ?_
   all_goals try first | omega
   refine hK21 _ _ _ ?_; clear hK21
   refine AW.block ?_
   refine AW.loopE (fun mm ee ss kk => ∃ (k g2 v2 g3 v3 g4 v4 : Nat), L.length - k = mm ∧ ee = [(2, .ptr ⟨2, g2, none⟩ 0 0), (6, .int .i64 n), (7, .rsl 1 (ya2 L)), (8, .rsl 1 (ints W)), (9, .int .i64 (cntF bel n D j + (yb5 bel n ((L.zip W).take k) ⟨[], [], B⟩).nx.length : Nat)), (10, .bool (yb5 bel n ((L.zip W).take k) ⟨[], [], B⟩).bg), (11, .int .i64 ((m : Int) - j)), (13, .sl ⟨200, g3, none⟩ 0 (yb5 bel n ((L.zip W).take k) ⟨[], [], B⟩).nx.length none), (14, .sl ⟨201, g4, none⟩ 0 (yb5 bel n ((L.zip W).take k) ⟨[], [], B⟩).sm.length none), (15, .int .i64 (k : Nat))] ∧ ss = [(2, some ⟨g2, v2, 1, [[.rsl 2 (tabR t)]]⟩), (200, some ⟨g3, v3, 1, ya2 (yb5 bel n ((L.zip W).take k) ⟨[], [], B⟩).nx⟩), (201, some ⟨g4, v4, 1, ints (yb5 bel n ((L.zip W).take k) ⟨[], [], B⟩).sm⟩)] ∧ (k ≤ L.length ∧ OkB bel n D j (yb5 bel n ((L.zip W).take k) ⟨[], [], B⟩))) ?_ ?_
   ·refine ⟨_, 0, ?_, ?_, ?_, ?_, ?_, ?_, rfl, ?henv, ?hstore, ?hst⟩
    case henv =>
     repeat' (first | rfl | refine yac ?_ ?_ | refine yae ?_ ?_ ?_ ?_ | refine yah ?_ | refine yaf ?_ | refine yai ?_ | refine yaj ?_ | refine yan ?_ ?_ ?_ | refine yak ?_ ?_ ?_ | refine yal ?_ | refine yag ?_ ?_ | refine yad ?_ ?_)
     all_goals (first | omega | (simp [yb5]; done) | rfl)
    case hstore =>
     repeat' (first | rfl | refine yac ?_ ?_ | refine yae ?_ ?_ ?_ ?_ | refine yah ?_ | refine yaf ?_ | refine yai ?_ | refine yaj ?_ | refine yan ?_ ?_ ?_ | refine yak ?_ ?_ ?_ | refine yal ?_ | refine yag ?_ ?_ | refine yad ?_ ?_)
     all_goals (first | (simp; done) | omega | (simp; omega))
    case hst =>
     exact ⟨Nat.zero_le _, by simp [OkB, yb5]; omega⟩
   rintro mm ee ss kk ⟨k, g2, v2, g3, v3, g4, v4, rfl, rfl, rfl, hI⟩
   generalize hQl3 : ya9 _ _ = Ql3
   obtain ⟨hk, hob⟩ := hI
   refine AW.seq fun K22 hK22 => ?_
   refine AW.seq fun K23 hK23 => ?_
   refine AW.regionK 0 (fun _ => none) [2, 6, 7, 8, 9, 10, 11, 13, 14, 15, 45] [2, 200, 201] ?_
   simp only [go_sem, reduceIte, reduceCtorEq, zA, zM, zE, zL, zD, zS, zP, zB, zI, zR, yaa, yab, hlt, yax]
   repeat with_reducible refine cj ?_ ?_
   all_goals try first | omega
   refine hK23 _ _ _ ?_; clear hK23
   refine AW.cond rfl (by simp only [go_sem, reduceIte, reduceCtorEq, zA, zM, zE, zL, zD, zS, zP, zB, zI, zR]) ?_ ?_
   ·intro hb
    try simp only [hB, decide_eq_true_eq, decide_eq_false_iff_not] at hb
    have hkl : k < L.length := by omega
    obtain ⟨S, hS⟩ := getI (l := L) (j := k) (by omega)
    obtain ⟨w, hw⟩ := getI (l := W) (j := k) (by omega)
    have hgS : (ya2 L).getD k [] = [.rsl 1 (yar S)] := by simp [ya2, List.getD_eq_getElem?_getD, hS]
    have hrl : (ya2 L).length = L.length := by simp [ya2]
    have hgw := yf1 hw
    have hSl := hll S (List.mem_of_getElem? hS)
    have hw0 := hok.rng w (List.mem_of_getElem? hw)
    have hrk := hrs k S w hS hw
    have hn1 := hns k S hS
    have hnt1 := hnt (k + 1)
    have hAn := hft k
    have hAo := hok2 k
    generalize hA : (yb5 bel n ((L.zip W).take k) ⟨[], [], B⟩) = A at *
    refine AW.skip ?_
    refine hK22 _ _ _ ?_; clear hK22
    refine AW.seq fun K24 hK24 => ?_
    refine AW.block ?_
    refine AW.seq fun K25 hK25 => ?_
    refine AW.regionK 0 (fun _ => none) [2, 6, 7, 8, 9, 10, 11, 13, 14, 15, 16] [2, 200, 201] ?_
    simp only [go_sem, reduceIte, reduceCtorEq, zA, zM, zE, zL, zD, zS, zP, zB, zI, zR, yaa, yab, hlt, yax]
    repeat with_reducible refine cj ?_ ?_
    all_goals try first | omega
    refine hK25 _ _ _ ?_; clear hK25
    refine AW.block ?_
    refine AW.loopE (fun mm ee ss kk => ∃ (x g2 v2 g3 v3 g4 v4 : Nat), n - x = mm ∧ ee = [(2, .ptr ⟨2, g2, none⟩ 0 0), (6, .int .i64 n), (7, .rsl 1 (ya2 L)), (8, .rsl 1 (ints W)), (9, .int .i64 (cntF bel n D j + (rS bel S w x A).nx.length : Nat)), (10, .bool (rS bel S w x A).bg), (11, .int .i64 ((m : Int) - j)), (13, .sl ⟨200, g3, none⟩ 0 (rS bel S w x A).nx.length none), (14, .sl ⟨201, g4, none⟩ 0 (rS bel S w x A).sm.length none), (15, .int .i64 (k : Nat)), (16, .int .i64 (x : Nat))] ∧ ss = [(2, some ⟨g2, v2, 1, [[.rsl 2 (tabR t)]]⟩), (200, some ⟨g3, v3, 1, ya2 (rS bel S w x A).nx⟩), (201, some ⟨g4, v4, 1, ints (rS bel S w x A).sm⟩)] ∧ (x ≤ n ∧ OkB bel n D j (rS bel S w x A))) ?_ ?_
    ·refine ⟨_, 0, ?_, ?_, ?_, ?_, ?_, ?_, rfl, ?henv, ?hstore, ?hst⟩
     case henv =>
      repeat' (first | rfl | refine yac ?_ ?_ | refine yae ?_ ?_ ?_ ?_ | refine yah ?_ | refine yaf ?_ | refine yai ?_ | refine yaj ?_ | refine yan ?_ ?_ ?_ | refine yak ?_ ?_ ?_ | refine yal ?_ | refine yag ?_ ?_ | refine yad ?_ ?_)
      all_goals (first | omega | (simp; done) | rfl)
     case hstore =>
      repeat' (first | rfl | refine yac ?_ ?_ | refine yae ?_ ?_ ?_ ?_ | refine yah ?_ | refine yaf ?_ | refine yai ?_ | refine yaj ?_ | refine yan ?_ ?_ ?_ | refine yak ?_ ?_ ?_ | refine yal ?_ | refine yag ?_ ?_ | refine yad ?_ ?_)
      all_goals (first | omega | (simp; done) | rfl)
     case hst =>
      exact ⟨Nat.zero_le _, hob⟩
    rintro mm ee ss kk ⟨x, g2, v2, g3, v3, g4, v4, rfl, rfl, rfl, hI⟩
    generalize hQl4 : ya9 _ _ = Ql4
    obtain ⟨hx, hob4⟩ := hI
    refine AW.seq fun K26 hK26 => ?_
    refine AW.seq fun K27 hK27 => ?_
    refine AW.regionK 0 (fun _ => none) [2, 6, 7, 8, 9, 10, 11, 13, 14, 15, 16, 50] [2, 200, 201] ?_
    simp only [go_sem, reduceIte, reduceCtorEq, zA, zM, zE, zL, zD, zS, zP, zB, zI, zR, yaa, yab, hlt, yax]
    repeat with_reducible refine cj ?_ ?_
    all_goals try first | omega
    refine hK27 _ _ _ ?_; clear hK27
    refine AW.cond rfl (by simp only [go_sem, reduceIte, reduceCtorEq, zA, zM, zE, zL, zD, zS, zP, zB, zI, zR]) ?_ ?_
    ·intro hb
     try simp only [hB, decide_eq_true_eq, decide_eq_false_iff_not] at hb
     have hxn : x < n := by omega
     have hrd := hready S hSl x hxn
     have hst1 : yaq bel S x = true → rS bel S w (x + 1) A = rAdd w (rS bel S w x A) (S.set x true) := fun h => yck _ h _
     have hst0 : yaq bel S x = false → rS bel S w (x + 1) A = rS bel S w x A := fun h => ycl _ h _
     have hXo := ROk.s (bel := bel) (S := S) hw0.1 x hAo
     have hXn : ∀ m, (rS bel S w m A).nx = accS bel S m A.nx := fun m => yr4 bel S w m A
     have hmono := ykc bel S A.nx (x + 1) n (by omega)
     rw [← hXn, ← hXn] at hmono
     have hfull : (rS bel S w n A).nx.length ≤ (ybt bel n L).length := by rw [hXn, hAn, ← hn1]; exact hnt1
     have hob5 : cntF bel n D j + (rS bel S w x A).nx.length ≤ 5000 := hob4
     have hPl : ∀ Z ∈ (rS bel S w x A).nx, Z.length = n := fun Z hZ => by
      rw [hXn, yi8] at hZ
      rcases hZ with h | ⟨y, _, _, rfl⟩
      ·rw [hAn, mem_nextL] at h
       obtain ⟨S2, h2, y, _, _, rfl⟩ := h
       rw [List.length_set]; exact hll S2 (List.mem_of_mem_take h2)
      ·rw [List.length_set]; exact hSl
     generalize hP : rS bel S w x A = P at *
     refine AW.skip ?_
     refine hK26 _ _ _ ?_; clear hK26
     refine AW.seq fun K28 hK28 => ?_
     have hB7 : ∀ (g2 v2 g3 v3 g4 v4 : Nat) (hq7 : OkB bel n D j (rS bel S w (x + 1) A)) (kk : Nat), K28 [(2, .ptr ⟨2, g2, none⟩ 0 0), (6, .int .i64 n), (7, .rsl 1 (ya2 L)), (8, .rsl 1 (ints W)), (9, .int .i64 (cntF bel n D j + (rS bel S w (x + 1) A).nx.length : Nat)), (10, .bool (rS bel S w (x + 1) A).bg), (11, .int .i64 ((m : Int) - j)), (13, .sl ⟨200, g3, none⟩ 0 (rS bel S w (x + 1) A).nx.length none), (14, .sl ⟨201, g4, none⟩ 0 (rS bel S w (x + 1) A).sm.length none), (15, .int .i64 (k : Nat)), (16, .int .i64 (x : Nat))] [(2, some ⟨g2, v2, 1, [[.rsl 2 (tabR t)]]⟩), (200, some ⟨g3, v3, 1, ya2 (rS bel S w (x + 1) A).nx⟩), (201, some ⟨g4, v4, 1, ints (rS bel S w (x + 1) A).sm⟩)] kk := by
      intro g2 v2 g3 v3 g4 v4 hq7 kk
      refine hK28 _ _ _ ?_; clear hK28
      refine AW.regionK 0 (fun _ => none) [2, 6, 7, 8, 9, 10, 11, 13, 14, 15, 16] [2, 200, 201] ?_
      simp only [go_sem, reduceIte, reduceCtorEq, zA, zM, zE, zL, zD, zS, zP, zB, zI, zR, yaa, yab, hlt, yax]
      repeat with_reducible refine cj ?_ ?_
      all_goals try first | omega
      rw [← hQl4]
      change Exists _
      refine ⟨_, ?hm, x + 1, ?_, ?_, ?_, ?_, ?_, ?_, rfl, ?henv, ?hstore, ?hst⟩
      case henv =>
       repeat' (first | rfl | refine yac ?_ ?_ | refine yae ?_ ?_ ?_ ?_ | refine yah ?_ | refine yaf ?_ | refine yai ?_ | refine yaj ?_ | refine yan ?_ ?_ ?_ | refine yak ?_ ?_ ?_ | refine yal ?_ | refine yag ?_ ?_ | refine yad ?_ ?_)
       all_goals (first | (simp; done) | omega | (simp; omega))
      case hstore =>
       repeat' (first | rfl | refine yac ?_ ?_ | refine yae ?_ ?_ ?_ ?_ | refine yah ?_ | refine yaf ?_ | refine yai ?_ | refine yaj ?_ | refine yan ?_ ?_ ?_ | refine yak ?_ ?_ ?_ | refine yal ?_ | refine yag ?_ ?_ | refine yad ?_ ?_)
       all_goals (first | (simp; done) | omega | (simp; omega))
      case hst =>
       exact ⟨by omega, hq7⟩
      case hm => omega
     refine AW.block ?_
     refine AW.seq fun K29 hK29 => ?_
     refine AW.seq fun K30 hK30 => ?_
     refine AW.regionD ye9 0 (fun ii => if ii = 6 then some (.reads false (.bool (yaq bel S x))) else none) [2, 6, 7, 8, 9, 10, 11, 13, 14, 15, 16, 60] [2, 200, 201] ?_
     simp only [go_sem, reduceIte, reduceCtorEq, zA, zM, zE, zL, zD, zS, zP, zB, zI, zR, yaa, yab, hlt, yax, hgS]
     repeat with_reducible refine cj ?_ ?_
     all_goals try first | (exact hrd) | omega | exact chk (by kernel_rfl) | exact ent (by kernel_rfl)
     refine hK30 _ _ _ ?_; clear hK30
     refine AW.cond rfl (by simp only [go_sem, reduceIte, reduceCtorEq, zA, zM, zE, zL, zD, zS, zP, zB, zI, zR]) ?_ ?_
     ·intro hb
      try simp only [hB, decide_eq_true_eq, decide_eq_false_iff_not] at hb
      have hf : yaq bel S x = false := by revert hb; simp
      refine AW.keep [2, 6, 7, 8, 9, 10, 11, 13, 14, 15, 16] [2, 200, 201] ?_
      try simp only [go_sem, reduceIte, reduceCtorEq, zA, zM, zE, zL, zD, zS, zP, zB, zI, zR]
      refine AW.exit ?_
      first | (rw [hst0 hf] at hB7; exact hB7 _ _ _ _ _ _ hob4 _) | exact hB7 _ _ _ _ _ _ hq7 _
     ·intro hb
      try simp only [hB, decide_eq_true_eq, decide_eq_false_iff_not] at hb
      have hf : yaq bel S x = true := by revert hb; simp
      have hadd := hst1 hf
      have hdx := ybw hf
      have hYl : (S.set x true).length = n := by rw [List.length_set]; exact hSl
      have hz : List.replicate n [AV.bool false] = yar (ycv (S.set x true) n 0) := by rw [yeg]; simp [yar]
      have hYg : ∀ i, i < n → (S.set x true).getD i false = (S.getD i false || decide ((i : Int) = (x : Int))) := fun i hi => by
       rw [yfm]
       by_cases e : x = i
       ·subst e; rw [if_pos ⟨rfl, by omega⟩]; simp
       ·rw [if_neg (fun h => e h.1), decide_eq_false (by omega)]; simp
      generalize hYd : S.set x true = Y at *
      refine AW.skip ?_
      refine hK29 _ _ _ ?_; clear hK29
      refine AW.seq fun K31 hK31 => ?_
      refine AW.regionK 0 (fun _ => none) [2, 6, 7, 8, 9, 10, 11, 13, 14, 15, 16, 17] [2, 62, 200, 201] ?_
      simp only [go_sem, reduceIte, reduceCtorEq, zA, zM, zE, zL, zD, zS, zP, zB, zI, zR, yaa, yab, hlt, yax]
      repeat with_reducible refine cj ?_ ?_
      all_goals try first | omega
      refine hK31 _ _ _ ?_; clear hK31
      refine AW.seq fun K32 hK32 => ?_
      refine AW.seq fun K33 hK33 => ?_
      refine AW.regionK 0 (fun _ => none) [2, 6, 7, 8, 9, 10, 11, 13, 14, 15, 16, 17, 18] [2, 62, 200, 201] ?_
      simp only [go_sem, reduceIte, reduceCtorEq, zA, zM, zE, zL, zD, zS, zP, zB, zI, zR, yaa, yab, hlt, yax]
      repeat with_reducible refine cj ?_ ?_
      all_goals try first | omega
      refine hK33 _ _ _ ?_; clear hK33
      refine AW.block ?_
      refine AW.loopE (fun mm ee ss kk => ∃ (i g2 v2 g3 v3 g4 v4 g5 v5 : Nat), n - i = mm ∧ ee = [(2, .ptr ⟨2, g2, none⟩ 0 0), (6, .int .i64 n), (7, .rsl 1 (ya2 L)), (8, .rsl 1 (ints W)), (9, .int .i64 (cntF bel n D j + P.nx.length : Nat)), (10, .bool P.bg), (11, .int .i64 ((m : Int) - j)), (13, .sl ⟨200, g3, none⟩ 0 P.nx.length none), (14, .sl ⟨201, g4, none⟩ 0 P.sm.length none), (15, .int .i64 (k : Nat)), (16, .int .i64 (x : Nat)), (17, .sl ⟨62, g5, none⟩ 0 n none), (18, .int .i64 (i : Nat))] ∧ ss = [(2, some ⟨g2, v2, 1, [[.rsl 2 (tabR t)]]⟩), (62, some ⟨g5, v5, 1, yar (ycv Y n i)⟩), (200, some ⟨g3, v3, 1, ya2 P.nx⟩), (201, some ⟨g4, v4, 1, ints P.sm⟩)] ∧ (i ≤ n)) ?_ ?_
      ·refine ⟨_, 0, ?_, ?_, ?_, ?_, ?_, ?_, ?_, ?_, rfl, ?henv, ?hstore, ?hst⟩
       case henv =>
        repeat' (first | rfl | refine yac ?_ ?_ | refine yae ?_ ?_ ?_ ?_ | refine yah ?_ | refine yaf ?_ | refine yai ?_ | refine yaj ?_ | refine yan ?_ ?_ ?_ | refine yak ?_ ?_ ?_ | refine yal ?_ | refine yag ?_ ?_ | refine yad ?_ ?_)
        all_goals (first | (simp; done) | omega | (simp; omega))
       case hstore =>
        repeat' (first | rfl | refine yac ?_ ?_ | refine yae ?_ ?_ ?_ ?_ | refine yah ?_ | refine yaf ?_ | refine yai ?_ | refine yaj ?_ | refine yan ?_ ?_ ?_ | refine yak ?_ ?_ ?_ | refine yal ?_ | refine yag ?_ ?_ | refine yad ?_ ?_)
        all_goals (rw [hz])
       case hst =>
        first | trivial | omega | (simp; done) | (simp; omega)
      rintro mm ee ss kk ⟨i, g2, v2, g3, v3, g4, v4, g5, v5, rfl, rfl, rfl, hI⟩
      generalize hQl5 : ya9 _ _ = Ql5
      have hfl := yfn hYl hI
      refine AW.seq fun K34 hK34 => ?_
      refine AW.seq fun K35 hK35 => ?_
      refine AW.regionK 0 (fun _ => none) [2, 6, 7, 8, 9, 10, 11, 13, 14, 15, 16, 17, 18, 65] [2, 62, 200, 201] ?_
      simp only [go_sem, reduceIte, reduceCtorEq, zA, zM, zE, zL, zD, zS, zP, zB, zI, zR, yaa, yab, hlt, yax]
      repeat with_reducible refine cj ?_ ?_
      all_goals try first | omega
      refine hK35 _ _ _ ?_; clear hK35
      refine AW.cond rfl (by simp only [go_sem, reduceIte, reduceCtorEq, zA, zM, zE, zL, zD, zS, zP, zB, zI, zR]) ?_ ?_
      ·intro hb
       try simp only [hB, decide_eq_true_eq, decide_eq_false_iff_not] at hb
       have hin : i < n := by omega
       have hgi := ybh (l := S) (i := i) (by omega)
       have hyi := hYg i hin
       have hfs := yeh hYl hin
       rw [hyi] at hfs
       refine AW.skip ?_
       refine hK34 _ _ _ ?_; clear hK34
       refine AW.seq fun K36 hK36 => ?_
       refine AW.block ?_
       refine AW.regionK 0 (fun _ => none) [2, 6, 7, 8, 9, 10, 11, 13, 14, 15, 16, 17, 18] [2, 62, 200, 201] ?_
       simp only [go_sem, reduceIte, reduceCtorEq, zA, zM, zE, zL, zD, zS, zP, zB, zI, zR, yaa, yab, hlt, yax, hgS, hgi, hfl, bools_upd, hfs]
       repeat with_reducible refine cj ?_ ?_
       all_goals try first | omega | (intros; (repeat' apply And.intro) <;> first | assumption | omega | decide) | (intro hgd; exact absurd hgd (by decide)) | rfl | (simp only [go_sem, reduceIte, reduceCtorEq, zA, zM, zE, zL, zD, zS, zP, zB, zI, zR, yaa, yab, hlt, yax, hgS, hgi, hfl, bools_upd, hfs]; done) | (intro _hgd; simp_all [go_sem]; done)
       refine hK36 _ _ _ ?_; clear hK36
       refine AW.regionK 0 (fun _ => none) [2, 6, 7, 8, 9, 10, 11, 13, 14, 15, 16, 17, 18] [2, 62, 200, 201] ?_
       simp only [go_sem, reduceIte, reduceCtorEq, zA, zM, zE, zL, zD, zS, zP, zB, zI, zR, yaa, yab, hlt, yax]
       repeat with_reducible refine cj ?_ ?_
       all_goals try first | omega
       rw [← hQl5]
       change Exists _
       refine ⟨_, ?hm, i + 1, ?_, ?_, ?_, ?_, ?_, ?_, ?_, ?_, rfl, ?henv, ?hstore, ?hst⟩
       case henv =>
        repeat' (first | rfl | refine yac ?_ ?_ | refine yae ?_ ?_ ?_ ?_ | refine yah ?_ | refine yaf ?_ | refine yai ?_ | refine yaj ?_ | refine yan ?_ ?_ ?_ | refine yak ?_ ?_ ?_ | refine yal ?_ | refine yag ?_ ?_ | refine yad ?_ ?_)
        all_goals (first | (simp; done) | omega | (simp; omega))
       case hstore =>
        repeat' (first | rfl | refine yac ?_ ?_ | refine yae ?_ ?_ ?_ ?_ | refine yah ?_ | refine yaf ?_ | refine yai ?_ | refine yaj ?_ | refine yan ?_ ?_ ?_ | refine yak ?_ ?_ ?_ | refine yal ?_ | refine yag ?_ ?_ | refine yad ?_ ?_)
        all_goals (first | (simp; done) | omega | (simp; omega))
       case hst =>
        omega
       case hm => omega
      ·intro hb
       try simp only [hB, decide_eq_true_eq, decide_eq_false_iff_not] at hb
       have hin : i = n := by omega
       rw [hin, yfo hYl]
       refine AW.keep [2, 6, 7, 8, 9, 10, 11, 13, 14, 15, 16, 17] [2, 62, 200, 201] ?_
       try simp only [go_sem, reduceIte, reduceCtorEq, zA, zM, zE, zL, zD, zS, zP, zB, zI, zR]
       refine AW.exit ?_
       rw [← hQl5]
       refine hK32 _ _ _ ?_; clear hK32
       refine AW.seq fun K37 hK37 => ?_
       refine AW.regionK 0 (fun _ => none) [2, 6, 7, 8, 9, 10, 11, 13, 14, 15, 16, 17, 19] [2, 62, 200, 201] ?_
       simp only [go_sem, reduceIte, reduceCtorEq, zA, zM, zE, zL, zD, zS, zP, zB, zI, zR, yaa, yab, hlt, yax]
       repeat with_reducible refine cj ?_ ?_
       all_goals try first | omega
       refine hK37 _ _ _ ?_; clear hK37
       refine AW.seq fun K38 hK38 => ?_
       refine AW.block ?_
       refine AW.loopE (fun mm ee ss kk => ∃ (q g2 v2 g3 v3 g4 v4 g5 v5 : Nat), P.nx.length - q = mm ∧ ee = [(2, .ptr ⟨2, g2, none⟩ 0 0), (6, .int .i64 n), (7, .rsl 1 (ya2 L)), (8, .rsl 1 (ints W)), (9, .int .i64 (cntF bel n D j + P.nx.length : Nat)), (10, .bool P.bg), (11, .int .i64 ((m : Int) - j)), (13, .sl ⟨200, g3, none⟩ 0 P.nx.length none), (14, .sl ⟨201, g4, none⟩ 0 P.sm.length none), (15, .int .i64 (k : Nat)), (16, .int .i64 (x : Nat)), (17, .sl ⟨62, g5, none⟩ 0 n none), (19, .int .i64 (q : Nat))] ∧ ss = [(2, some ⟨g2, v2, 1, [[.rsl 2 (tabR t)]]⟩), (62, some ⟨g5, v5, 1, yar Y⟩), (200, some ⟨g3, v3, 1, ya2 P.nx⟩), (201, some ⟨g4, v4, 1, ints P.sm⟩)] ∧ (q ≤ P.nx.length ∧ Y ∉ P.nx.take q)) ?_ ?_
       ·refine ⟨_, 0, ?_, ?_, ?_, ?_, ?_, ?_, ?_, ?_, rfl, ?henv, ?hstore, ?hst⟩
        case henv =>
         repeat' (first | rfl | refine yac ?_ ?_ | refine yae ?_ ?_ ?_ ?_ | refine yah ?_ | refine yaf ?_ | refine yai ?_ | refine yaj ?_ | refine yan ?_ ?_ ?_ | refine yak ?_ ?_ ?_ | refine yal ?_ | refine yag ?_ ?_ | refine yad ?_ ?_)
         all_goals (first | (simp; done) | omega | (simp; omega))
        case hstore =>
         repeat' (first | rfl | refine yac ?_ ?_ | refine yae ?_ ?_ ?_ ?_ | refine yah ?_ | refine yaf ?_ | refine yai ?_ | refine yaj ?_ | refine yan ?_ ?_ ?_ | refine yak ?_ ?_ ?_ | refine yal ?_ | refine yag ?_ ?_ | refine yad ?_ ?_)
         all_goals (first | (simp; done) | omega | (simp; omega))
        case hst =>
         exact ⟨Nat.zero_le _, by simp⟩
       rintro mm ee ss kk ⟨q, g2, v2, g3, v3, g4, v4, g5, v5, rfl, rfl, rfl, hI⟩
       generalize hQl6 : ya9 _ _ = Ql6
       obtain ⟨hq, hnot⟩ := hI
       have hrP : (ya2 P.nx).length = P.nx.length := by simp [ya2]
       have hgq : ∀ Z, P.nx[q]? = some Z → (ya2 P.nx).getD q [] = [.rsl 1 (yar Z)] := fun Z hZ => by simp [ya2, List.getD_eq_getElem?_getD, hZ]
       have hq3 : q < P.nx.length ∨ q = P.nx.length := by omega
       refine AW.seq fun K39 hK39 => ?_
       refine AW.seq fun K40 hK40 => ?_
       have hD29 : ∀  (kk : Nat), K40 [(2, .ptr ⟨2, g2, none⟩ 0 0), (6, .int .i64 n), (7, .rsl 1 (ya2 L)), (8, .rsl 1 (ints W)), (9, .int .i64 (cntF bel n D j + P.nx.length : Nat)), (10, .bool P.bg), (11, .int .i64 ((m : Int) - j)), (13, .sl ⟨200, g3, none⟩ 0 P.nx.length none), (14, .sl ⟨201, g4, none⟩ 0 P.sm.length none), (15, .int .i64 (k : Nat)), (16, .int .i64 (x : Nat)), (17, .sl ⟨62, g5, none⟩ 0 n none), (19, .int .i64 (q : Nat)), (95, .bool (decide (q < P.nx.length) && !decide (P.nx[q]? = some Y)))] [(2, some ⟨g2, v2, 1, [[.rsl 2 (tabR t)]]⟩), (62, some ⟨g5, v5, 1, yar Y⟩), (200, some ⟨g3, v3, 1, ya2 P.nx⟩), (201, some ⟨g4, v4, 1, ints P.sm⟩)] kk := by
        intro  kk
        refine hK40 _ _ _ ?_; clear hK40
        refine AW.cond rfl (by simp only [go_sem, reduceIte, reduceCtorEq, zA, zM, zE, zL, zD, zS, zP, zB, zI, zR]) ?_ ?_
        ·intro hb
         try simp only [hB, decide_eq_true_eq, decide_eq_false_iff_not] at hb
         have hb8 : q < P.nx.length ∧ P.nx[q]? ≠ some Y := by simpa using hb
         refine AW.skip ?_
         refine hK39 _ _ _ ?_; clear hK39
         refine AW.block ?_
         refine AW.regionK 0 (fun _ => none) [2, 6, 7, 8, 9, 10, 11, 13, 14, 15, 16, 17, 19] [2, 62, 200, 201] ?_
         simp only [go_sem, reduceIte, reduceCtorEq, zA, zM, zE, zL, zD, zS, zP, zB, zI, zR, yaa, yab, hlt, yax]
         repeat with_reducible refine cj ?_ ?_
         all_goals try first | omega
         rw [← hQl6]
         change Exists _
         refine ⟨_, ?hm, q + 1, ?_, ?_, ?_, ?_, ?_, ?_, ?_, ?_, rfl, ?henv, ?hstore, ?hst⟩
         case henv =>
          repeat' (first | rfl | refine yac ?_ ?_ | refine yae ?_ ?_ ?_ ?_ | refine yah ?_ | refine yaf ?_ | refine yai ?_ | refine yaj ?_ | refine yan ?_ ?_ ?_ | refine yak ?_ ?_ ?_ | refine yal ?_ | refine yag ?_ ?_ | refine yad ?_ ?_)
          all_goals (first | (simp; done) | omega | (simp; omega))
         case hstore =>
          repeat' (first | rfl | refine yac ?_ ?_ | refine yae ?_ ?_ ?_ ?_ | refine yah ?_ | refine yaf ?_ | refine yai ?_ | refine yaj ?_ | refine yan ?_ ?_ ?_ | refine yak ?_ ?_ ?_ | refine yal ?_ | refine yag ?_ ?_ | refine yad ?_ ?_)
          all_goals (first | (simp; done) | omega | (simp; omega))
         case hst =>
          refine ⟨by omega, ?_⟩
          obtain ⟨Z, hZ⟩ := getI (l := P.nx) (j := q) hb8.1
          rw [List.take_add_one, hZ]
          intro h
          rcases List.mem_append.1 h with h | h
          ·exact hnot h
          ·have : Y = Z := by simpa using h
           exact hb8.2 (by rw [this, hZ])
         case hm => omega
        ·intro hb
         try simp only [hB, decide_eq_true_eq, decide_eq_false_iff_not] at hb
         obtain ⟨hqi, hql, hqin⟩ := yp2 hnot hq hb
         have hadd2 : rS bel S w (x + 1) A = rPut (rNew P Y) q w := by rw [hadd]; unfold rAdd; rw [hqi]
         have hNo := hXo.new Y
         have hPs := hXo.len
         refine AW.keep [2, 6, 7, 8, 9, 10, 11, 13, 14, 15, 16, 17, 19] [2, 62, 200, 201] ?_
         try simp only [go_sem, reduceIte, reduceCtorEq, zA, zM, zE, zL, zD, zS, zP, zB, zI, zR]
         refine AW.exit ?_
         rw [← hQl6]
         refine hK38 _ _ _ ?_; clear hK38
         refine AW.seq fun K53 hK53 => ?_
         refine AW.seq fun K54 hK54 => ?_
         refine AW.regionK 0 (fun _ => none) [2, 6, 7, 8, 9, 10, 11, 13, 14, 15, 16, 17, 19, 101] [2, 62, 200, 201] ?_
         simp only [go_sem, reduceIte, reduceCtorEq, zA, zM, zE, zL, zD, zS, zP, zB, zI, zR, yaa, yab, hlt, yax]
         repeat with_reducible refine cj ?_ ?_
         all_goals try first | omega
         refine hK54 _ _ _ ?_; clear hK54
         have hJ9 : ∀ (g2 v2 g3 v3 g4 v4 : Nat) (hq9 : OkB bel n D j (rNew P Y)) (kk : Nat), K53 [(2, .ptr ⟨2, g2, none⟩ 0 0), (6, .int .i64 n), (7, .rsl 1 (ya2 L)), (8, .rsl 1 (ints W)), (9, .int .i64 (cntF bel n D j + (rNew P Y).nx.length : Nat)), (10, .bool (rNew P Y).bg), (11, .int .i64 ((m : Int) - j)), (13, .sl ⟨200, g3, none⟩ 0 (rNew P Y).nx.length none), (14, .sl ⟨201, g4, none⟩ 0 (rNew P Y).sm.length none), (15, .int .i64 (k : Nat)), (16, .int .i64 (x : Nat)), (19, .int .i64 (q : Nat))] [(2, some ⟨g2, v2, 1, [[.rsl 2 (tabR t)]]⟩), (200, some ⟨g3, v3, 1, ya2 (rNew P Y).nx⟩), (201, some ⟨g4, v4, 1, ints (rNew P Y).sm⟩)] kk := by
          intro g2 v2 g3 v3 g4 v4 hq9 kk
          refine hK53 _ _ _ ?_; clear hK53
          have hNl := hNo.len
          have hgq2 := ybv (l := (rNew P Y).sm) (i := q) (by omega)
          have hrq := hNo.getD q
          have hgs : ∀ v : Int, (ints ((rNew P Y).sm.set q v)).getD q [] = [.int .i64 v] := fun v => by
           rw [ybv (by rw [List.length_set]; omega)]
           simp [List.getD_eq_getElem?_getD, show q < (rNew P Y).sm.length by omega]
          have hpd : rPut (rNew P Y) q w = ⟨(rNew P Y).nx, (rNew P Y).sm.set q (capM ((rNew P Y).sm.getD q 0 + w)), (rNew P Y).bg || decide (1125899906842624 < (rNew P Y).sm.getD q 0 + w)⟩ := rfl
          have hobN : cntF bel n D j + (rNew P Y).nx.length ≤ 5000 := hq9
          rw [hadd2, hpd] at hB7
          simp only at hB7
          have hq7 : OkB bel n D j (rPut (rNew P Y) q w) := hq9
          rw [hpd] at hq7
          generalize rNew P Y = Q at *
          generalize hs : Q.sm.getD q 0 = s at *
          refine AW.seq fun K58 hK58 => ?_
          refine AW.regionD ye9 0 (fun _ => none) [2, 6, 7, 8, 9, 10, 11, 13, 14, 15, 16, 19] [2, 200, 201] ?_
          simp only [go_sem, reduceIte, reduceCtorEq, zA, zM, zE, zL, zD, zS, zP, zB, zI, zR, yaa, yab, hlt, yax, hgq2, hgw, yf0]
          repeat with_reducible refine cj ?_ ?_
          all_goals try first | omega | exact chk (by kernel_rfl)
          refine hK58 _ _ _ ?_; clear hK58
          refine AW.seq fun K59 hK59 => ?_
          refine AW.regionK 0 (fun _ => none) [2, 6, 7, 8, 9, 10, 11, 13, 14, 15, 16, 19, 129] [2, 200, 201] ?_
          simp only [go_sem, reduceIte, reduceCtorEq, zA, zM, zE, zL, zD, zS, zP, zB, zI, zR, yaa, yab, hlt, yax, hgs]
          repeat with_reducible refine cj ?_ ?_
          all_goals try first | omega
          refine hK59 _ _ _ ?_; clear hK59
          refine AW.cond rfl (by simp only [go_sem, reduceIte, reduceCtorEq, zA, zM, zE, zL, zD, zS, zP, zB, zI, zR]) ?_ ?_
          ·intro hb
           try simp only [hB, decide_eq_true_eq, decide_eq_false_iff_not] at hb
           have hcap : capM (s + w) = 1125899906842625 := by unfold capM; rw [if_pos hb]
           simp only [hcap, decide_eq_true hb, Bool.or_true, List.length_set] at hB7
           refine AW.seq fun K60 hK60 => ?_
           refine AW.regionK 0 (fun _ => none) [2, 6, 7, 8, 9, 11, 13, 14, 15, 16] [2, 200, 201] ?_
           simp only [go_sem, reduceIte, reduceCtorEq, zA, zM, zE, zL, zD, zS, zP, zB, zI, zR, yaa, yab, hlt, yax, hgs, yf0, List.set_set, List.length_set]
           repeat with_reducible refine cj ?_ ?_
           all_goals try first | omega
           refine hK60 _ _ _ ?_; clear hK60
           refine AW.regionK 0 (fun _ => none) [2, 6, 7, 8, 9, 10, 11, 13, 14, 15, 16] [2, 200, 201] ?_
           simp only [go_sem, reduceIte, reduceCtorEq, zA, zM, zE, zL, zD, zS, zP, zB, zI, zR, yaa, yab, hlt, yax]
           repeat with_reducible refine cj ?_ ?_
           all_goals try first | omega
           first | (rw [hst0 hf] at hB7; exact hB7 _ _ _ _ _ _ hob4 _) | exact hB7 _ _ _ _ _ _ hq7 _
          ·intro hb
           try simp only [hB, decide_eq_true_eq, decide_eq_false_iff_not] at hb
           have hcap : capM (s + w) = s + w := by unfold capM; rw [if_neg (by omega)]
           have hdf : decide (1125899906842624 < s + w) = false := decide_eq_false (by omega)
           simp only [hcap, hdf, Bool.or_false, List.length_set] at hB7
           refine AW.keep [2, 6, 7, 8, 9, 10, 11, 13, 14, 15, 16] [2, 200, 201] ?_
           simp only [go_sem, reduceIte, zE]
           refine AW.skip ?_
           first | (rw [hst0 hf] at hB7; exact hB7 _ _ _ _ _ _ hob4 _) | exact hB7 _ _ _ _ _ _ hq7 _
         refine AW.cond rfl (by simp only [go_sem, reduceIte, reduceCtorEq, zA, zM, zE, zL, zD, zS, zP, zB, zI, zR]) ?_ ?_
         ·intro hb
          try simp only [hB, decide_eq_true_eq, decide_eq_false_iff_not] at hb
          have hqe : q = P.nx.length := by omega
          have hYn : Y ∉ P.nx := by rwa [hqe, List.take_of_length_le (Nat.le_refl _)] at hnot
          have hnew := yl8 hYn
          have htY : Y.take n = Y := List.take_of_length_le (by omega)
          have hgl : ∀ c, (ya2 P.nx ++ [c]).getD P.nx.length [] = c := by
           intro c; rw [List.getD_eq_getElem?_getD, List.getElem?_append_right (by omega)]; simp [ya2]
          have hsl : ∀ c c', (ya2 P.nx ++ [c]).set P.nx.length c' = ya2 P.nx ++ [c'] := by
           intro c c'; rw [List.set_append_right _ _ (by omega)]; simp [ya2]
          have hra : ya2 P.nx ++ [[.rsl 1 (yar Y)]] = ya2 (P.nx ++ [Y]) := by simp [ya2]
          have htr : (ya2 P.nx).take P.nx.length = ya2 P.nx := List.take_of_length_le (by omega)
          have hts : (ints P.sm).take P.sm.length = ints P.sm := List.take_of_length_le (by rw [yaa]; omega)
          have hc9 : ((cntF bel n D j + P.nx.length : Nat) : Int) + 1 = ((cntF bel n D j + (P.nx.length + 1) : Nat) : Int) := by omega
          simp only [hnew, List.length_append, List.length_cons, List.length_nil, Nat.zero_add] at hJ9
          refine AW.seq fun K61 hK61 => ?_
          refine AW.regionK 0 (fun _ => none) [2, 6, 7, 8, 9, 10, 11, 13, 14, 15, 16, 19] [2, 62, 200, 201] ?_
          simp only [go_sem, reduceIte, reduceCtorEq, zA, zM, zE, zL, zD, zS, zP, zB, zI, zR, yaa, yab, hlt, yax, htr]
          repeat with_reducible refine cj ?_ ?_
          all_goals try first | omega | (simp [scP, ybj]; done) | exact ybc _ | exact ybm _ | exact ybd _
          refine hK61 _ _ _ ?_; clear hK61
          refine AW.frzCellK [62] 5 200 P.nx.length 0 ?_
          simp only [go_sem, reduceIte, zE, hgl, hsl, htY, List.length_append, yax, vw_boolsL]
          refine ⟨rfl, by omega, by decide, by decide, ?_⟩
          rw [hra]
          refine AW.keep [2, 6, 7, 8, 9, 10, 11, 13, 14, 15, 16, 19] [2, 200, 201] ?_
          simp only [go_sem, reduceIte, zE]
          refine AW.seq fun K62 hK62 => ?_
          refine AW.regionK 0 (fun _ => none) [2, 6, 7, 8, 9, 10, 11, 13, 14, 15, 16, 19] [2, 200, 201] ?_
          simp only [go_sem, reduceIte, reduceCtorEq, zA, zM, zE, zL, zD, zS, zP, zB, zI, zR, yaa, yab, hlt, yax, hts, ydm]
          repeat with_reducible refine cj ?_ ?_
          all_goals try first | omega | (simp [scP, ybj]; done) | exact ybc _ | exact ybm _ | exact ybd _
          refine hK62 _ _ _ ?_; clear hK62
          refine AW.seq fun K63 hK63 => ?_
          refine AW.regionK 0 (fun _ => none) [2, 6, 7, 8, 9, 10, 11, 13, 14, 15, 16, 19] [2, 200, 201] ?_
          simp only [go_sem, reduceIte, reduceCtorEq, zA, zM, zE, zL, zD, zS, zP, zB, zI, zR, yaa, yab, hlt, yax, hc9]
          repeat with_reducible refine cj ?_ ?_
          all_goals try first | omega
          refine hK63 _ _ _ ?_; clear hK63
          refine AW.seq fun K64 hK64 => ?_
          refine AW.regionK 0 (fun _ => none) [2, 6, 7, 8, 9, 10, 11, 13, 14, 15, 16, 19, 112] [2, 200, 201] ?_
          simp only [go_sem, reduceIte, reduceCtorEq, zA, zM, zE, zL, zD, zS, zP, zB, zI, zR, yaa, yab, hlt, yax]
          repeat with_reducible refine cj ?_ ?_
          all_goals try first | omega
          refine hK64 _ _ _ ?_; clear hK64
          refine AW.cond rfl (by simp only [go_sem, reduceIte, reduceCtorEq, zA, zM, zE, zL, zD, zS, zP, zB, zI, zR]) ?_ ?_
          ·intro hb
           try simp only [hB, decide_eq_true_eq, decide_eq_false_iff_not] at hb
           exfalso; have hn9 : (rNew P Y).nx.length ≤ (rS bel S w n A).nx.length := by rw [show (rNew P Y).nx = (rS bel S w (x + 1) A).nx by rw [hadd2]; rfl]; exact hmono
           rw [hnew] at hn9
           simp only [List.length_append, List.length_cons, List.length_nil] at hn9
           omega
          ·intro hb
           try simp only [hB, decide_eq_true_eq, decide_eq_false_iff_not] at hb
           have hq9 : OkB bel n D j (rNew P Y) := by
            rw [hnew]
            simp only [OkB, List.length_append, List.length_cons, List.length_nil]
            omega
           rw [hnew] at hq9
           refine AW.keep [2, 6, 7, 8, 9, 10, 11, 13, 14, 15, 16, 19] [2, 200, 201] ?_
           simp only [go_sem, reduceIte, zE]
           refine AW.skip ?_
           exact hJ9 _ _ _ _ _ _ hq9 _
         ·intro hb
          try simp only [hB, decide_eq_true_eq, decide_eq_false_iff_not] at hb
          have hYi : Y ∈ P.nx := hqin (by omega)
          have hnew := yoe hYi
          simp only [hnew] at hJ9
          have hq9 := hob4
          refine AW.keep [2, 6, 7, 8, 9, 10, 11, 13, 14, 15, 16, 19] [2, 200, 201] ?_
          try simp only [go_sem, reduceIte, reduceCtorEq, zA, zM, zE, zL, zD, zS, zP, zB, zI, zR]
          refine AW.skip ?_
          exact hJ9 _ _ _ _ _ _ hq9 _
       rcases hq3 with hqlt | hqeq
       ·-- region 29
        obtain ⟨Z, hZ⟩ := getI (l := P.nx) (j := q) hqlt
        have htY : Y.take n = Y := List.take_of_length_le (by omega)
        have hgx := hgq Z hZ
        have hZl : Z.length = n := hPl Z (List.mem_of_getElem? hZ)
        have hsm := Reads.flat (yp0 Z Y (by omega) (by omega)) rfl
        have hev : (decide ((q : Int) < (P.nx.length : Int)) && !decide (Z = Y)) = (decide (q < P.nx.length) && !decide (P.nx[q]? = some Y)) := by rw [hZ]; simp
        rw [← hev] at hD29
        refine AW.regionK 0 (fun ii => if ii = 10 then some (.reads true (.bool (decide (Z = Y)))) else none) [2, 6, 7, 8, 9, 10, 11, 13, 14, 15, 16, 17, 19, 95] [2, 62, 200, 201] ?_
        simp only [go_sem, reduceIte, reduceCtorEq, zA, zM, zE, zL, zD, zS, zP, zB, zI, zR, yaa, yab, hlt, yax, hgx, vw_boolsL, htY]
        repeat with_reducible refine cj ?_ ?_
        all_goals try first | (first | exact fun hh => ⟨hh, hsm⟩ | (intro hh; refine ⟨hh, hh, ?_, ?_⟩ <;> (simp only [decide_eq_true_eq] at hh; omega)) | (intro hh; exfalso; simp only [decide_eq_true_eq] at hh; omega) | (apply decide_eq_false; omega)) | (intros; (repeat' apply And.intro) <;> first | assumption | (first | exact fun hh => ⟨hh, hsm⟩ | (intro hh; refine ⟨hh, hh, ?_, ?_⟩ <;> (simp only [decide_eq_true_eq] at hh; omega)) | (intro hh; exfalso; simp only [decide_eq_true_eq] at hh; omega) | (apply decide_eq_false; omega))) | omega | exact ent (by kernel_rfl) | (intro hgd; exact absurd hgd (by decide)) | rfl | (simp only [go_sem, reduceIte, reduceCtorEq, zA, zM, zE, zL, zD, zS, zP, zB, zI, zR, yaa, yab, hlt, yax, hgx, vw_boolsL, htY]; done) | (intro _hgd; simp_all [go_sem]; done)
        exact hD29 _
       ·-- region 29
        have htY : Y.take n = Y := List.take_of_length_le (by omega)
        have hgx : (ya2 P.nx).getD q [] = [] := by rw [List.getD_eq_getElem?_getD, List.getElem?_eq_none (by omega)]; rfl
        have hev : false = (decide (q < P.nx.length) && !decide (P.nx[q]? = some Y)) := by rw [show decide (q < P.nx.length) = false from decide_eq_false (by omega)]; rfl
        rw [← hev] at hD29
        refine AW.regionK 0 (fun ii => if ii = 10 then some (.reads true .any) else none) [2, 6, 7, 8, 9, 10, 11, 13, 14, 15, 16, 17, 19, 95] [2, 62, 200, 201] ?_
        simp only [go_sem, reduceIte, reduceCtorEq, zA, zM, zE, zL, zD, zS, zP, zB, zI, zR, yaa, yab, hlt, yax, hgx, vw_boolsL, htY]
        repeat with_reducible refine cj ?_ ?_
        all_goals try first | (first | exact fun hh => ⟨hh, hsm⟩ | (intro hh; refine ⟨hh, hh, ?_, ?_⟩ <;> (simp only [decide_eq_true_eq] at hh; omega)) | (intro hh; exfalso; simp only [decide_eq_true_eq] at hh; omega) | (apply decide_eq_false; omega)) | (intros; (repeat' apply And.intro) <;> first | assumption | (first | exact fun hh => ⟨hh, hsm⟩ | (intro hh; refine ⟨hh, hh, ?_, ?_⟩ <;> (simp only [decide_eq_true_eq] at hh; omega)) | (intro hh; exfalso; simp only [decide_eq_true_eq] at hh; omega) | (apply decide_eq_false; omega))) | omega | exact ent (by kernel_rfl) | (intro hgd; exact absurd hgd (by decide)) | rfl | (simp only [go_sem, reduceIte, reduceCtorEq, zA, zM, zE, zL, zD, zS, zP, zB, zI, zR, yaa, yab, hlt, yax, hgx, vw_boolsL, htY]; done) | (intro _hgd; simp_all [go_sem]; done)
        exact hD29 _
    ·intro hb
     try simp only [hB, decide_eq_true_eq, decide_eq_false_iff_not] at hb
     have hxn : n = x := by omega
     subst hxn
     rw [← hrk] at hob4 ⊢
     refine AW.keep [2, 6, 7, 8, 9, 10, 11, 13, 14, 15] [2, 200, 201] ?_
     try simp only [go_sem, reduceIte, reduceCtorEq, zA, zM, zE, zL, zD, zS, zP, zB, zI, zR]
     refine AW.exit ?_
     rw [← hQl4]
     refine hK24 _ _ _ ?_; clear hK24
     refine AW.regionK 0 (fun _ => none) [2, 6, 7, 8, 9, 10, 11, 13, 14, 15] [2, 200, 201] ?_
     simp only [go_sem, reduceIte, reduceCtorEq, zA, zM, zE, zL, zD, zS, zP, zB, zI, zR, yaa, yab, hlt, yax]
     repeat with_reducible refine cj ?_ ?_
     all_goals try first | omega
     rw [← hQl3]
     change Exists _
     refine ⟨_, ?hm, k + 1, ?_, ?_, ?_, ?_, ?_, ?_, rfl, ?henv, ?hstore, ?hst⟩
     case henv =>
      repeat' (first | rfl | refine yac ?_ ?_ | refine yae ?_ ?_ ?_ ?_ | refine yah ?_ | refine yaf ?_ | refine yai ?_ | refine yaj ?_ | refine yan ?_ ?_ ?_ | refine yak ?_ ?_ ?_ | refine yal ?_ | refine yag ?_ ?_ | refine yad ?_ ?_)
      all_goals (first | (simp; done) | omega | (simp; omega))
     case hstore =>
      repeat' (first | rfl | refine yac ?_ ?_ | refine yae ?_ ?_ ?_ ?_ | refine yah ?_ | refine yaf ?_ | refine yai ?_ | refine yaj ?_ | refine yan ?_ ?_ ?_ | refine yak ?_ ?_ ?_ | refine yal ?_ | refine yag ?_ ?_ | refine yad ?_ ?_)
      all_goals (first | (simp; done) | omega | (simp; omega))
     case hst =>
      exact ⟨by omega, hob4⟩
     case hm => omega
   ·intro hb
    try simp only [hB, decide_eq_true_eq, decide_eq_false_iff_not] at hb
    have hkl : k = L.length := by omega
    have hzl : (L.zip W).take k = L.zip W := List.take_of_length_le (by rw [List.length_zip]; omega)
    rw [hzl, ← hsucc] at hob ⊢
    have hn2 := yka bel n D (j + 1)
    have hok3 := (yiu bel n D (j + 1)).len
    have htr : (ya2 (rIt bel n D (j + 1)).nx).take (rIt bel n D (j + 1)).nx.length = ya2 (rIt bel n D (j + 1)).nx := List.take_of_length_le (by rw [yax]; omega)
    have hts : (rIt bel n D (j + 1)).sm.take (rIt bel n D (j + 1)).sm.length = (rIt bel n D (j + 1)).sm := List.take_of_length_le (Nat.le_refl _)
    have hcs2 : cntF bel n D (j + 1) = cntF bel n D j + (rIt bel n D (j + 1)).nx.length := by rw [hn2]; rfl
    refine AW.keep [2, 6, 9, 10, 11, 13, 14] [2, 200, 201] ?_
    try simp only [go_sem, reduceIte, reduceCtorEq, zA, zM, zE, zL, zD, zS, zP, zB, zI, zR]
    refine AW.exit ?_
    rw [← hQl3]
    refine hK20 _ _ _ ?_; clear hK20
    refine AW.regionK 0 (fun _ => none) [2, 6, 7, 8, 9, 10, 11] [2, 200, 201] ?_
    simp only [go_sem, reduceIte, reduceCtorEq, zA, zM, zE, zL, zD, zS, zP, zB, zI, zR, yaa, yab, hlt, yax]
    repeat with_reducible refine cj ?_ ?_
    all_goals try first | omega
    refine hK17 _ _ _ ?_; clear hK17
    refine AW.freezeK [200, 201] [7, 8] [2, 6, 9, 10, 11] [2] ?_
    simp only [go_sem, reduceIte, zE, htr, hts]
    refine AW.regionK 0 (fun _ => none) [2, 6, 7, 8, 9, 10, 11] [2] ?_
    simp only [go_sem, reduceIte, reduceCtorEq, zA, zM, zE, zL, zD, zS, zP, zB, zI, zR, yaa, yab, hlt, yax]
    repeat with_reducible refine cj ?_ ?_
    all_goals try first | omega
    rw [← hQl2]
    change Exists _
    refine ⟨_, ?hm, j + 1, ?_, ?_, rfl, ?henv, ?hstore, ?hst⟩
    case henv =>
     repeat' (first | rfl | refine yac ?_ ?_ | refine yae ?_ ?_ ?_ ?_ | refine yah ?_ | refine yaf ?_ | refine yai ?_ | refine yaj ?_ | refine yan ?_ ?_ ?_ | refine yak ?_ ?_ ?_ | refine yal ?_ | refine yag ?_ ?_ | refine yad ?_ ?_)
     all_goals (first | omega | (rw [hcs2]) | (simp; done) | rfl)
    case hstore =>
     repeat' (first | rfl | refine yac ?_ ?_ | refine yae ?_ ?_ ?_ ?_ | refine yah ?_ | refine yaf ?_ | refine yai ?_ | refine yaj ?_ | refine yan ?_ ?_ ?_ | refine yak ?_ ?_ ?_ | refine yal ?_ | refine yag ?_ ?_ | refine yad ?_ ?_)
     all_goals (first | (simp; done) | omega | (simp; omega))
    case hst =>
     exact ⟨by omega, by rw [hcs2]; exact hob⟩
    case hm => omega
  ·intro hb
   try simp only [hB, decide_eq_true_eq, decide_eq_false_iff_not] at hb
   have hjm : j = m := by omega
   subst hjm
   refine AW.keep [8, 10] [2] ?_
   try simp only [go_sem, reduceIte, reduceCtorEq, zA, zM, zE, zL, zD, zS, zP, zB, zI, zR]
   refine AW.exit ?_
   rw [← hQl2]
   refine hK14 _ _ _ ?_; clear hK14
   refine AW.seq fun K65 hK65 => ?_
   refine AW.seq fun K66 hK66 => ?_
   refine AW.regionK 0 (fun _ => none) [8, 135] [2, 25, 108] ?_
   simp only [go_sem, reduceIte, reduceCtorEq, zA, zM, zE, zL, zD, zS, zP, zB, zI, zR, yaa, yab, hlt, yax]
   repeat with_reducible refine cj ?_ ?_
   all_goals try first | omega
   refine hK66 _ _ _ ?_; clear hK66
   refine AW.cond rfl (by simp only [go_sem, reduceIte, reduceCtorEq, zA, zM, zE, zL, zD, zS, zP, zB, zI, zR]) ?_ ?_
   ·intro hb
    try simp only [hB, decide_eq_true_eq, decide_eq_false_iff_not] at hb
    refine AW.seq fun K67 hK67 => ?_
    refine AW.regionK 0 (fun _ => none) [4, 5] [2] ?_
    simp only [go_sem, reduceIte, reduceCtorEq, zA, zM, zE, zL, zD, zS, zP, zB, zI, zR, yaa, yab, hlt, yax]
    repeat with_reducible refine cj ?_ ?_
    all_goals try first | omega
    refine hK67 _ _ _ ?_; clear hK67
    refine AW.ret ?_
    rw [← hQr]
    simp only [go_sem, reduceIte, reduceCtorEq, zA, zM, zE, zL, zD, zS, zP, zB, zI, zR, yaa, yab, hlt, yax]
    exact Wk.of_eq (by rw [hb]; rfl)
   ·intro hb
    try simp only [hB, decide_eq_true_eq, decide_eq_false_iff_not] at hb
    refine AW.skip ?_
    refine hK65 _ _ _ ?_; clear hK65
    refine AW.seq fun K68 hK68 => ?_
    have hg0 := ybv (l := (rIt bel n D j).sm) (i := 0) (by omega)
    refine AW.regionK 0 (fun _ => none) [4, 5] [2] ?_
    simp only [go_sem, reduceIte, reduceCtorEq, zA, zM, zE, zL, zD, zS, zP, zB, zI, zR, yaa, yab, hlt, yax, hg0]
    repeat with_reducible refine cj ?_ ?_
    all_goals try first | omega
    refine hK68 _ _ _ ?_; clear hK68
    refine AW.ret ?_
    rw [← hQr]
    simp only [go_sem, reduceIte, reduceCtorEq, zA, zM, zE, zL, zD, zS, zP, zB, zI, zR, yaa, yab, hlt, yax]
    exact Wk.of_eq (by rw [hb]; rfl)
end Go.Proofs.X

namespace Go.Proofs.X
open Go.AM Go
set_option maxRecDepth 100000
set_option maxHeartbeats 4000000
def cntA (n : Nat) (t : List (List Bool)) : Int := if 5000 < cntL (belL n t) n n then 0 else if (1125899906842624 : Int) < cE (belL n t) n n (List.replicate n false) then 0 else cE (belL n t) n n (List.replicate n false)
def cntE (n : Nat) (t : List (List Bool)) : Int := if 5000 < cntL (belL n t) n n then 16 else if (1125899906842624 : Int) < cE (belL n t) n n (List.replicate n false) then 9 else 0
theorem ysq (n : Nat) (t : List (List Bool)) (hs : Sq n t) (hn : n ≤ 512) (hp : poB n t = true) (D : List Bool) (hDl : D.length = n) (m : Nat) (hm : cntT D + m = n) :
  Reads Tryd.prog 46 false [relB t, .rsl 1 (yar D)] (.tup [.int .i64 (if 5000 < cntF (belL n t) n D m then 0 else if (1125899906842624 : Int) < cE (belL n t) n m D then 0 else cE (belL n t) n m D), .int .i64 (if 5000 < cntF (belL n t) n D m then 16 else if (1125899906842624 : Int) < cE (belL n t) n m D then 9 else 0)]) := by
 have hpo := (yie hs).1 hp
 obtain ⟨h1, h2, h3⟩ := rest_val hpo hDl hm
 by_cases hc : 5000 < cntF (belL n t) n D m
 ·rw [if_pos hc, if_pos hc]; exact rest_over n t hs hn D hDl m hm hc
 ·rw [if_neg hc, if_neg hc]
  have h := rest_in n t hs hn D hDl m hm (by omega) h2
  by_cases hb : (1125899906842624 : Int) < cE (belL n t) n m D
  ·rw [h3.2 hb] at h
   rw [if_pos hb, if_pos hb]
   exact h
  ·have hf : (rIt (belL n t) n D m).bg = false := by
    cases e : (rIt (belL n t) n D m).bg with
    | false => rfl
    | true => exact absurd (h3.1 e) hb
   rw [hf, h1 hf] at h
   rw [if_neg hb, if_neg hb]
   exact h
theorem rcount_all (n : Nat) (t : List (List Bool)) (hs : Sq n t) (hn : n ≤ 512) (hp : poB n t = true) : Reads Tryd.prog 15 false [relB t] (.tup [.int .i64 (cntA n t), .int .i64 (cntE n t)]) := by
 have h := ysq n t hs hn hp (List.replicate n false) (by simp) n (by rw [yhq]; omega)
 rw [ynq] at h
 have h : Reads Tryd.prog 46 false [relB t, .rsl 1 (yar (List.replicate n false))] (.tup [.int .i64 (cntA n t), .int .i64 (cntE n t)]) := h
 have h2 := Reads.flat h rfl
 have hlt : (tabR t).length = n := by rw [ycu, hs.len]
 have hz : List.replicate n [AV.bool false] = yar (List.replicate n false) := by simp [yar]
 have htk : (yar (List.replicate n false)).take n = yar (List.replicate n false) := List.take_of_length_le (by rw [yab]; simp)
 unfold relB at *
 generalize cntA n t = a at *
 generalize cntE n t = e at *
 refine Reads.body (rs := [.tmp 2, .tmp 3]) Tryd.func15 rfl Tryd.ntmps15 rfl (by simp) ?_
 generalize hQr : retQ _ _ _ = Qr
 refine AW.seq fun K1 hK1 => ?_
 refine AW.regionK 0 (fun _ => none) [1] [1] ?_
 simp only [go_sem, reduceIte, reduceCtorEq, zA, zM, zE, zL, zD, zS, zP, zB, zI, zR, hlt]
 repeat with_reducible refine cj ?_ ?_
 all_goals try first | omega
 refine hK1 _ _ _ ?_; clear hK1
 refine AW.seq fun K2 hK2 => ?_
 refine AW.regionD ye9 0 (fun ii => if ii = 5 then some (.upd [8] (fun _ => []) (fun _ => .tup [.int .i64 a, .int .i64 e])) else none) [2, 3] [] ?_
 simp only [go_sem, reduceIte, reduceCtorEq, zA, zM, zE, zL, zD, zS, zP, zB, zI, zR, hlt]
 repeat with_reducible refine cj ?_ ?_
 all_goals try first | (exact h2.upd (by simp only [go_sem, reduceIte, zE, hz, htk, ykw, vw_boolsL])) | omega | exact chk (by kernel_rfl) | exact ent (by kernel_rfl)
 refine hK2 _ _ _ ?_; clear hK2
 refine AW.ret ?_
 rw [← hQr]
 simp only [go_sem, reduceIte, reduceCtorEq, zA, zM, zE, zL, zD, zS, zP, zB, zI, zR, hlt]
 exact Wk.refl _
end Go.Proofs.X

/- Each rank is the rank of an extension. -/
namespace Go.AM
theorem yp4 {p : Nat → Bool} {f : Nat → Nat} {k : Nat} : ∀ n, k < sumF p f n → ∃ x, x < n ∧ p x = true ∧ sumF p f x ≤ k ∧ k < sumF p f x + f x
  | 0, h => by rw [yj6] at h; omega
  | n + 1, h => by
    by_cases h1 : k < sumF p f n
    · obtain ⟨x, h2, h3⟩ := yp4 n h1
      exact ⟨x, by omega, h3⟩
    · cases hp : p n with
      | true => rw [yb2 f hp] at h; exact ⟨n, by omega, hp, by omega, h⟩
      | false => rw [yel f hp] at h; exact absurd h h1
theorem yke {l : List Int} {x : Int} {q : Nat} (h : q < l.length) : (l ++ [x]).getD q 0 = l.getD q 0 := by
  rw [List.getD_eq_getElem?_getD, List.getElem?_append_left h, ← List.getD_eq_getElem?_getD]
theorem yhx {l : List Int} {x : Int} : (l ++ [x]).getD l.length 0 = x := by simp [List.getD_eq_getElem?_getD]
theorem yhy {n : Nat} {l : List Int} {x : Int} {q : Nat} (h : q ≤ l.length) : dAt n (l ++ [x]) q = dAt n l q := by
  unfold dAt; rw [List.take_append_of_le_length h]
theorem yk7 {bel : List (List Int)} {n : Nat} {l : List Int} {x : Int} : ∀ q, q ≤ l.length → ya8 bel n (l ++ [x]) q = ya8 bel n l q
  | 0, _ => rfl
  | q + 1, h => by
    show ya8 bel n (l ++ [x]) q + _ = ya8 bel n l q + _
    rw [yk7 q (by omega), yhy (by omega), yke (by omega)]
structure IsPre (n : Nat) (bel : List (List Int)) (l : List Int) : Prop where
  le : l.length ≤ n
  rng : ∀ m, m < l.length → 0 ≤ l.getD m 0 ∧ l.getD m 0 < (n : Int)
  free : ∀ m, m < l.length → yaq bel (dAt n l m) (l.getD m 0).toNat = true
theorem IsPre.snoc {n : Nat} {bel : List (List Int)} {l : List Int} (h : IsPre n bel l) {x : Nat} (hl : l.length < n) (hx : x < n) (hf : yaq bel (dAt n l l.length) x = true) : IsPre n bel (l ++ [((x : Nat) : Int)]) := by
  refine ⟨by simp; omega, fun m hm => ?_, fun m hm => ?_⟩
  · simp only [List.length_append, List.length_cons, List.length_nil] at hm
    by_cases e : m < l.length
    · rw [yke e]; exact h.rng m e
    · rw [show m = l.length by omega, yhx]; omega
  · simp only [List.length_append, List.length_cons, List.length_nil] at hm
    by_cases e : m < l.length
    · rw [yke e, yhy (by omega)]; exact h.free m e
    · rw [show m = l.length by omega, yhx, yhy (Nat.le_refl _)]; exact hf
theorem IsPre.ext {n : Nat} {bel : List (List Int)} {l : List Int} (h : IsPre n bel l) (hl : l.length = n) : IsExt n bel l := ⟨hl, fun m hm => h.rng m (by omega), fun m hm => h.free m (by omega)⟩
theorem yk8 {n : Nat} {bel : List (List Int)} {k : Nat} (hk : k < cE bel n n (List.replicate n false)) : ∀ m, m ≤ n → ∃ l, IsPre n bel l ∧ l.length = m ∧ ya8 bel n l m ≤ k ∧ k < ya8 bel n l m + cE bel n (n - m) (dAt n l m)
  | 0, _ => ⟨[], ⟨Nat.zero_le _, fun m h => by simp at h, fun m h => by simp at h⟩, rfl, Nat.zero_le _, by simpa [ya8, dAt, exD] using hk⟩
  | m + 1, hm => by
    obtain ⟨l, h1, h2, h3, h4⟩ := yk8 hk m (by omega)
    rw [yr1 (by omega)] at h4
    obtain ⟨x, hx, hf, h5, h6⟩ := yp4 (p := yaq bel (dAt n l m)) (f := fun x => cE bel n (n - (m + 1)) ((dAt n l m).set x true)) (k := k - ya8 bel n l m) n (by omega)
    have hd : dAt n (l ++ [((x : Nat) : Int)]) (m + 1) = (dAt n l m).set x true := by
      rw [ycf (by simp; omega), yhy (by omega)]
      rw [show m = l.length by omega, yhx, Int.toNat_natCast]
    have hr : ya8 bel n (l ++ [((x : Nat) : Int)]) (m + 1) = ya8 bel n l m + sumF (yaq bel (dAt n l m)) (fun x => cE bel n (n - (m + 1)) ((dAt n l m).set x true)) x := by
      show ya8 bel n (l ++ [((x : Nat) : Int)]) m + _ = _
      rw [yk7 m (by omega), yhy (by omega)]
      have : (l ++ [((x : Nat) : Int)]).getD m 0 = (x : Nat) := by rw [← h2]; exact yhx
      rw [this, Int.toNat_natCast]
    refine ⟨l ++ [((x : Nat) : Int)], h1.snoc (by omega) hx (by rw [h2]; exact hf), by simp [h2], ?_, ?_⟩
    · rw [hr]; omega
    · rw [hr, hd]; omega
theorem unrank_ex {n : Nat} {bel : List (List Int)} {k : Nat} (hk : k < cE bel n n (List.replicate n false)) : ∃ l, extB n bel l = true ∧ ya8 bel n l n = k := by
  obtain ⟨l, h1, h2, h3, h4⟩ := yk8 (bel := bel) hk n (Nat.le_refl _)
  rw [Nat.sub_self] at h4
  simp only [cE] at h4
  exact ⟨l, extB_iff.2 (h1.ext h2), by omega⟩
end Go.AM

namespace Go.Proofs.X
open Go.AM Go
set_option maxRecDepth 100000
set_option maxHeartbeats 4000000
theorem yrs (n : Nat) (t : List (List Bool)) (hs : Sq n t) (hn : n ≤ 512) (hp : poB n t = true) (hbud : cntL (belL n t) n n ≤ 5000) (hcb : cE (belL n t) n n (List.replicate n false) ≤ 1125899906842624) (l : List Int) (hIE : IsExt n (belL n t) l) (k : Nat) (hk : k < n) (x : Nat) (hx : x < n) (hf : yaq (belL n t) (dAt n l k) x = true) :
  Reads Tryd.prog 46 false [relB t, .rsl 1 (yar ((dAt n l k).set x true))] (.tup [.int .i64 (cE (belL n t) n (n - (k + 1)) ((dAt n l k).set x true) : Nat), .int .i64 0]) := by
 have hlv := yfs (hIE.lv k (by omega)) hx hf
 have hc := yhv hlv
 have h := ysq n t hs hn hp ((dAt n l k).set x true) (by rw [List.length_set, ybg]) (n - (k + 1)) (by omega)
 have h1 := yrr hlv (n - (k + 1))
 rw [show k + 1 + (n - (k + 1)) = n by omega] at h1
 have h2 := hIE.bound hk (i := x + 1) (by omega)
 have h3 := yb2 (p := yaq (belL n t) (dAt n l k)) (fun x => cE (belL n t) n (n - (k + 1)) ((dAt n l k).set x true)) hf
 rw [h3] at h2
 rw [if_neg (by omega), if_neg (by omega), if_neg (by omega), if_neg (by omega)] at h
 exact h
theorem rrank_g (n : Nat) (t : List (List Bool)) (hs : Sq n t) (hn : n ≤ 512) (hp : poB n t = true) (hbud : cntL (belL n t) n n ≤ 5000) (hcb : cE (belL n t) n n (List.replicate n false) ≤ 1125899906842624) (l : List Int) (hx : extB n (belL n t) l = true) :
  Reads Tryd.prog 28 false [relB t, .rsl 1 (ints l)] (.int .i64 (ya8 (belL n t) n l n : Nat)) := by
 have hIE := extB_iff.1 hx
 have hln := hIE.len
 have hrd := fun k x hx => Reads.flat (yi9 n t hs hn (dAt n l k) (ybg n l k) x hx) rfl
 have hrs := fun k hk x hx hf => Reads.flat (yrs n t hs hn hp hbud hcb l hIE k hk x hx hf) rfl
 have hbnd := fun m (hm : m < n) i hi => hIE.bound (i := i) hm hi
 have hz : List.replicate n [AV.bool false] = yar (dAt n l 0) := by simp [dAt, exD, yar]
 unfold relB at *
 generalize belL n t = bel at *
 refine Reads.body (rs := [.tmp 4]) Tryd.func28 rfl Tryd.ntmps28 rfl (by simp) ?_
 generalize hQr : retQ _ _ _ = Qr
 refine AW.seq fun K1 hK1 => ?_
 refine AW.regionK 0 (fun _ => none) [1, 2] [2, 15] ?_
 simp only [go_sem, reduceIte, reduceCtorEq, zA, zM, zE, zL, zD, zS, zP, zB, zI, zR, yaa, yab]
 repeat with_reducible refine cj ?_ ?_
 all_goals try first | omega
 refine hK1 _ _ _ ?_; clear hK1
 refine AW.seq fun K2 hK2 => ?_
 refine AW.regionK 0 (fun _ => none) [1, 2, 5] [2, 15] ?_
 simp only [go_sem, reduceIte, reduceCtorEq, zA, zM, zE, zL, zD, zS, zP, zB, zI, zR, yaa, yab]
 repeat with_reducible refine cj ?_ ?_
 all_goals try first | omega
 refine hK2 _ _ _ ?_; clear hK2
 refine AW.seq fun K3 hK3 => ?_
 refine AW.regionK 0 (fun _ => none) [1, 2, 5, 6] [2, 15] ?_
 simp only [go_sem, reduceIte, reduceCtorEq, zA, zM, zE, zL, zD, zS, zP, zB, zI, zR, yaa, yab]
 repeat with_reducible refine cj ?_ ?_
 all_goals try first | omega
 refine hK3 _ _ _ ?_; clear hK3
 refine AW.seq fun K4 hK4 => ?_
 refine AW.seq fun K5 hK5 => ?_
 refine AW.regionK 0 (fun _ => none) [1, 2, 5, 6, 7] [2, 15] ?_
 simp only [go_sem, reduceIte, reduceCtorEq, zA, zM, zE, zL, zD, zS, zP, zB, zI, zR, yaa, yab]
 repeat with_reducible refine cj ?_ ?_
 all_goals try first | omega
 refine hK5 _ _ _ ?_; clear hK5
 refine AW.block ?_
 refine AW.loopE (fun mm ee ss kk => ∃ (k g2 v2 g3 v3 : Nat), n - k = mm ∧ ee = [(1, .rsl 1 (ints l)), (2, .ptr ⟨2, g2, none⟩ 0 0), (5, .sl ⟨15, g3, none⟩ 0 n none), (6, .int .i64 (ya8 bel n l k : Nat)), (7, .int .i64 (k : Nat))] ∧ ss = [(2, some ⟨g2, v2, 1, [[.rsl 2 (tabR t)]]⟩), (15, some ⟨g3, v3, 1, yar (dAt n l k)⟩)] ∧ (k ≤ n)) ?_ ?_
 ·refine ⟨_, 0, ?_, ?_, ?_, ?_, rfl, ?henv, ?hstore, ?hst⟩
  case henv =>
   repeat' (first | rfl | refine yac ?_ ?_ | refine yae ?_ ?_ ?_ ?_ | refine yah ?_ | refine yaf ?_ | refine yai ?_ | refine yaj ?_ | refine yan ?_ ?_ ?_ | refine yak ?_ ?_ ?_ | refine yal ?_ | refine yag ?_ ?_ | refine yad ?_ ?_)
   all_goals (first | omega | rfl | (rw [hln]) | (simp [hln]))
  case hstore =>
   repeat' (first | rfl | refine yac ?_ ?_ | refine yae ?_ ?_ ?_ ?_ | refine yah ?_ | refine yaf ?_ | refine yai ?_ | refine yaj ?_ | refine yan ?_ ?_ ?_ | refine yak ?_ ?_ ?_ | refine yal ?_ | refine yag ?_ ?_ | refine yad ?_ ?_)
   all_goals (rw [hln, hz])
  case hst =>
   first | trivial | omega | (simp; done) | (simp; omega)
 rintro mm ee ss kk ⟨k, g2, v2, g3, v3, rfl, rfl, rfl, hI⟩
 generalize hQl1 : ya9 _ _ = Ql1
 have hdl := ybg n l k
 have hbt : (yar (dAt n l k)).take n = yar (dAt n l k) := List.take_of_length_le (by rw [yab]; omega)
 refine AW.seq fun K6 hK6 => ?_
 refine AW.seq fun K7 hK7 => ?_
 refine AW.regionK 0 (fun _ => none) [1, 2, 5, 6, 7, 19] [2, 15] ?_
 simp only [go_sem, reduceIte, reduceCtorEq, zA, zM, zE, zL, zD, zS, zP, zB, zI, zR, yaa, yab]
 repeat with_reducible refine cj ?_ ?_
 all_goals try first | omega
 refine hK7 _ _ _ ?_; clear hK7
 refine AW.cond rfl (by simp only [go_sem, reduceIte, reduceCtorEq, zA, zM, zE, zL, zD, zS, zP, zB, zI, zR]) ?_ ?_
 ·intro hb
  try simp only [hB, decide_eq_true_eq, decide_eq_false_iff_not] at hb
  have hk : k < n := by omega
  have hgx := ybv (l := l) (i := k) (by omega)
  obtain ⟨hx0, hx1⟩ := hIE.rng k hk
  have hds := ycf (n := n) (l := l) (m := k) (by omega)
  have hrdk := hrd k
  have hrsk := hrs k hk
  have hbd := hbnd k hk
  have hrk : ya8 bel n l (k + 1) = ya8 bel n l k + sumF (yaq bel (dAt n l k)) (fun x => cE bel n (n - (k + 1)) ((dAt n l k).set x true)) (l.getD k 0).toNat := rfl
  generalize hX : l.getD k 0 = x at *
  generalize hD : dAt n l k = d at *
  refine AW.skip ?_
  refine hK6 _ _ _ ?_; clear hK6
  refine AW.seq fun K8 hK8 => ?_
  refine AW.block ?_
  refine AW.seq fun K9 hK9 => ?_
  refine AW.seq fun K10 hK10 => ?_
  refine AW.regionK 0 (fun _ => none) [1, 2, 5, 6, 7, 8] [2, 15] ?_
  simp only [go_sem, reduceIte, reduceCtorEq, zA, zM, zE, zL, zD, zS, zP, zB, zI, zR, yaa, yab]
  repeat with_reducible refine cj ?_ ?_
  all_goals try first | omega
  refine hK10 _ _ _ ?_; clear hK10
  refine AW.block ?_
  refine AW.loopE (fun mm ee ss kk => ∃ (y g2 v2 g3 v3 : Nat), x.toNat - y = mm ∧ ee = [(1, .rsl 1 (ints l)), (2, .ptr ⟨2, g2, none⟩ 0 0), (5, .sl ⟨15, g3, none⟩ 0 n none), (6, .int .i64 (ya8 bel n l k + sumF (yaq bel d) (fun x => cE bel n (n - (k + 1)) (d.set x true)) y : Nat)), (7, .int .i64 (k : Nat)), (8, .int .i64 (y : Nat))] ∧ ss = [(2, some ⟨g2, v2, 1, [[.rsl 2 (tabR t)]]⟩), (15, some ⟨g3, v3, 1, yar d⟩)] ∧ ((y : Int) ≤ x)) ?_ ?_
  ·refine ⟨_, 0, ?_, ?_, ?_, ?_, rfl, ?henv, ?hstore, ?hst⟩
   case henv =>
    repeat' (first | rfl | refine yac ?_ ?_ | refine yae ?_ ?_ ?_ ?_ | refine yah ?_ | refine yaf ?_ | refine yai ?_ | refine yaj ?_ | refine yan ?_ ?_ ?_ | refine yak ?_ ?_ ?_ | refine yal ?_ | refine yag ?_ ?_ | refine yad ?_ ?_)
    all_goals (first | (simp; done) | omega | (simp; omega))
   case hstore =>
    repeat' (first | rfl | refine yac ?_ ?_ | refine yae ?_ ?_ ?_ ?_ | refine yah ?_ | refine yaf ?_ | refine yai ?_ | refine yaj ?_ | refine yan ?_ ?_ ?_ | refine yak ?_ ?_ ?_ | refine yal ?_ | refine yag ?_ ?_ | refine yad ?_ ?_)
    all_goals (first | (simp; done) | omega | (simp; omega))
   case hst =>
    first | trivial | omega | (simp; done) | (simp; omega)
  rintro mm ee ss kk ⟨y, g2, v2, g3, v3, rfl, rfl, rfl, hI⟩
  generalize hQl2 : ya9 _ _ = Ql2
  refine AW.seq fun K11 hK11 => ?_
  refine AW.seq fun K12 hK12 => ?_
  refine AW.regionK 0 (fun _ => none) [1, 2, 5, 6, 7, 8, 27] [2, 15] ?_
  simp only [go_sem, reduceIte, reduceCtorEq, zA, zM, zE, zL, zD, zS, zP, zB, zI, zR, yaa, yab, hgx]
  repeat with_reducible refine cj ?_ ?_
  all_goals try first | omega
  refine hK12 _ _ _ ?_; clear hK12
  refine AW.cond rfl (by simp only [go_sem, reduceIte, reduceCtorEq, zA, zM, zE, zL, zD, zS, zP, zB, zI, zR]) ?_ ?_
  ·intro hb
   try simp only [hB, decide_eq_true_eq, decide_eq_false_iff_not] at hb
   have hyn : y < n := by omega
   have hr1 := hrdk y hyn
   have hr2 := hrsk y hyn
   have hb3 := hbd (y + 1) (by omega)
   have hs1 : yaq bel d y = true → sumF (yaq bel d) (fun x => cE bel n (n - (k + 1)) (d.set x true)) (y + 1) = sumF (yaq bel d) (fun x => cE bel n (n - (k + 1)) (d.set x true)) y + cE bel n (n - (k + 1)) (d.set y true) := fun h => yb2 _ h
   have hs0 : yaq bel d y = false → sumF (yaq bel d) (fun x => cE bel n (n - (k + 1)) (d.set x true)) (y + 1) = sumF (yaq bel d) (fun x => cE bel n (n - (k + 1)) (d.set x true)) y := fun h => yel _ h
   refine AW.skip ?_
   refine hK11 _ _ _ ?_; clear hK11
   refine AW.seq fun K13 hK13 => ?_
   refine AW.block ?_
   refine AW.seq fun K14 hK14 => ?_
   refine AW.regionK 0 (fun ii => if ii = 3 then some (.reads true (.bool (yaq bel d y))) else none) [1, 2, 5, 6, 7, 8, 33] [2, 15] ?_
   simp only [go_sem, reduceIte, reduceCtorEq, zA, zM, zE, zL, zD, zS, zP, zB, zI, zR, yaa, yab, hbt]
   repeat with_reducible refine cj ?_ ?_
   all_goals try first | (exact hr1) | omega | exact ent (by kernel_rfl)
   refine hK14 _ _ _ ?_; clear hK14
   have hJ3 : ∀ (g2 v2 g3 v3 : Nat) (kk : Nat), K13 [(1, .rsl 1 (ints l)), (2, .ptr ⟨2, g2, none⟩ 0 0), (5, .sl ⟨15, g3, none⟩ 0 n none), (6, .int .i64 (ya8 bel n l k + sumF (yaq bel d) (fun x => cE bel n (n - (k + 1)) (d.set x true)) (y + 1) : Nat)), (7, .int .i64 (k : Nat)), (8, .int .i64 (y : Nat))] [(2, some ⟨g2, v2, 1, [[.rsl 2 (tabR t)]]⟩), (15, some ⟨g3, v3, 1, yar d⟩)] kk := by
    intro g2 v2 g3 v3 kk
    refine hK13 _ _ _ ?_; clear hK13
    refine AW.regionK 0 (fun _ => none) [1, 2, 5, 6, 7, 8] [2, 15] ?_
    simp only [go_sem, reduceIte, reduceCtorEq, zA, zM, zE, zL, zD, zS, zP, zB, zI, zR, yaa, yab]
    repeat with_reducible refine cj ?_ ?_
    all_goals try first | omega
    rw [← hQl2]
    change Exists _
    refine ⟨_, ?hm, y + 1, ?_, ?_, ?_, ?_, rfl, ?henv, ?hstore, ?hst⟩
    case henv =>
     repeat' (first | rfl | refine yac ?_ ?_ | refine yae ?_ ?_ ?_ ?_ | refine yah ?_ | refine yaf ?_ | refine yai ?_ | refine yaj ?_ | refine yan ?_ ?_ ?_ | refine yak ?_ ?_ ?_ | refine yal ?_ | refine yag ?_ ?_ | refine yad ?_ ?_)
     all_goals (first | (simp; done) | omega | (simp; omega))
    case hstore =>
     repeat' (first | rfl | refine yac ?_ ?_ | refine yae ?_ ?_ ?_ ?_ | refine yah ?_ | refine yaf ?_ | refine yai ?_ | refine yaj ?_ | refine yan ?_ ?_ ?_ | refine yak ?_ ?_ ?_ | refine yal ?_ | refine yag ?_ ?_ | refine yad ?_ ?_)
     all_goals (first | (simp; done) | omega | (simp; omega))
    case hst =>
     omega
    case hm => omega
   refine AW.cond rfl (by simp only [go_sem, reduceIte, reduceCtorEq, zA, zM, zE, zL, zD, zS, zP, zB, zI, zR]) ?_ ?_
   ·intro hb
    try simp only [hB, decide_eq_true_eq, decide_eq_false_iff_not] at hb
    have hr2 := hr2 hb
    have hse := hs1 hb
    rw [hse] at hJ3
    have hYl : (d.set y true).length = n := by rw [List.length_set]; exact hdl
    have hz2 : List.replicate n [AV.bool false] = yar (ycv (d.set y true) n 0) := by rw [yeg]; simp [yar]
    have hYg : ∀ i, i < n → (d.set y true).getD i false = (d.getD i false || decide ((i : Int) = (y : Int))) := fun i hi => by
     rw [yfm]
     by_cases e : y = i
     ·subst e; rw [if_pos ⟨rfl, by omega⟩]; simp
     ·rw [if_neg (fun h => e h.1), decide_eq_false (by omega)]; simp
    have hsum : ((ya8 bel n l k + sumF (yaq bel d) (fun x => cE bel n (n - (k + 1)) (d.set x true)) y : Nat) : Int) + (cE bel n (n - (k + 1)) (d.set y true) : Nat) = ((ya8 bel n l k + (sumF (yaq bel d) (fun x => cE bel n (n - (k + 1)) (d.set x true)) y + cE bel n (n - (k + 1)) (d.set y true)) : Nat) : Int) := by omega
    have hble : ya8 bel n l k + (sumF (yaq bel d) (fun x => cE bel n (n - (k + 1)) (d.set x true)) y + cE bel n (n - (k + 1)) (d.set y true)) ≤ 1125899906842624 := by rw [← hse]; omega
    generalize hYd : d.set y true = Y at *
    generalize hCE : cE bel n (n - (k + 1)) Y = c at *
    generalize hSS : sumF (yaq bel d) (fun x => cE bel n (n - (k + 1)) (d.set x true)) y = sq0 at *
    refine AW.seq fun K15 hK15 => ?_
    refine AW.regionK 0 (fun _ => none) [1, 2, 5, 6, 7, 8, 9] [2, 15, 36] ?_
    simp only [go_sem, reduceIte, reduceCtorEq, zA, zM, zE, zL, zD, zS, zP, zB, zI, zR, yaa, yab]
    repeat with_reducible refine cj ?_ ?_
    all_goals try first | omega
    refine hK15 _ _ _ ?_; clear hK15
    refine AW.seq fun K16 hK16 => ?_
    refine AW.seq fun K17 hK17 => ?_
    refine AW.regionK 0 (fun _ => none) [1, 2, 5, 6, 7, 8, 9, 10] [2, 15, 36] ?_
    simp only [go_sem, reduceIte, reduceCtorEq, zA, zM, zE, zL, zD, zS, zP, zB, zI, zR, yaa, yab]
    repeat with_reducible refine cj ?_ ?_
    all_goals try first | omega
    refine hK17 _ _ _ ?_; clear hK17
    refine AW.block ?_
    refine AW.loopE (fun mm ee ss kk => ∃ (i g2 v2 g3 v3 g4 v4 : Nat), n - i = mm ∧ ee = [(1, .rsl 1 (ints l)), (2, .ptr ⟨2, g2, none⟩ 0 0), (5, .sl ⟨15, g3, none⟩ 0 n none), (6, .int .i64 (ya8 bel n l k + sq0 : Nat)), (7, .int .i64 (k : Nat)), (8, .int .i64 (y : Nat)), (9, .sl ⟨36, g4, none⟩ 0 n none), (10, .int .i64 (i : Nat))] ∧ ss = [(2, some ⟨g2, v2, 1, [[.rsl 2 (tabR t)]]⟩), (15, some ⟨g3, v3, 1, yar d⟩), (36, some ⟨g4, v4, 1, yar (ycv Y n i)⟩)] ∧ (i ≤ n)) ?_ ?_
    ·refine ⟨_, 0, ?_, ?_, ?_, ?_, ?_, ?_, rfl, ?henv, ?hstore, ?hst⟩
     case henv =>
      repeat' (first | rfl | refine yac ?_ ?_ | refine yae ?_ ?_ ?_ ?_ | refine yah ?_ | refine yaf ?_ | refine yai ?_ | refine yaj ?_ | refine yan ?_ ?_ ?_ | refine yak ?_ ?_ ?_ | refine yal ?_ | refine yag ?_ ?_ | refine yad ?_ ?_)
      all_goals (first | omega | rfl | (rw [hln]) | (simp [hln]))
     case hstore =>
      repeat' (first | rfl | refine yac ?_ ?_ | refine yae ?_ ?_ ?_ ?_ | refine yah ?_ | refine yaf ?_ | refine yai ?_ | refine yaj ?_ | refine yan ?_ ?_ ?_ | refine yak ?_ ?_ ?_ | refine yal ?_ | refine yag ?_ ?_ | refine yad ?_ ?_)
      all_goals (rw [hln, hz2])
     case hst =>
      first | trivial | omega | (simp; done) | (simp; omega)
    rintro mm ee ss kk ⟨i, g2, v2, g3, v3, g4, v4, rfl, rfl, rfl, hI⟩
    generalize hQl3 : ya9 _ _ = Ql3
    have hfl := yfn hYl hI
    refine AW.seq fun K18 hK18 => ?_
    refine AW.seq fun K19 hK19 => ?_
    refine AW.regionK 0 (fun _ => none) [1, 2, 5, 6, 7, 8, 9, 10, 40] [2, 15, 36] ?_
    simp only [go_sem, reduceIte, reduceCtorEq, zA, zM, zE, zL, zD, zS, zP, zB, zI, zR, yaa, yab]
    repeat with_reducible refine cj ?_ ?_
    all_goals try first | omega
    refine hK19 _ _ _ ?_; clear hK19
    refine AW.cond rfl (by simp only [go_sem, reduceIte, reduceCtorEq, zA, zM, zE, zL, zD, zS, zP, zB, zI, zR]) ?_ ?_
    ·intro hb
     try simp only [hB, decide_eq_true_eq, decide_eq_false_iff_not] at hb
     have hin : i < n := by omega
     have hgi := ybh (l := d) (i := i) (by omega)
     have hyi := hYg i hin
     have hfs := yeh hYl hin
     rw [hyi] at hfs
     refine AW.skip ?_
     refine hK18 _ _ _ ?_; clear hK18
     refine AW.seq fun K20 hK20 => ?_
     refine AW.block ?_
     refine AW.regionK 0 (fun _ => none) [1, 2, 5, 6, 7, 8, 9, 10] [2, 15, 36] ?_
     simp only [go_sem, reduceIte, reduceCtorEq, zA, zM, zE, zL, zD, zS, zP, zB, zI, zR, yaa, yab, hgi, hdl, hfl, bools_upd, hfs]
     repeat with_reducible refine cj ?_ ?_
     all_goals try first | omega | (intros; (repeat' apply And.intro) <;> first | assumption | omega | decide) | (intro hgd; exact absurd hgd (by decide)) | rfl | (simp only [go_sem, reduceIte, reduceCtorEq, zA, zM, zE, zL, zD, zS, zP, zB, zI, zR, yaa, yab, hgi, hdl, hfl, bools_upd, hfs]; done) | (intro _hgd; simp_all [go_sem]; done)
     refine hK20 _ _ _ ?_; clear hK20
     refine AW.regionK 0 (fun _ => none) [1, 2, 5, 6, 7, 8, 9, 10] [2, 15, 36] ?_
     simp only [go_sem, reduceIte, reduceCtorEq, zA, zM, zE, zL, zD, zS, zP, zB, zI, zR, yaa, yab]
     repeat with_reducible refine cj ?_ ?_
     all_goals try first | omega
     rw [← hQl3]
     change Exists _
     refine ⟨_, ?hm, i + 1, ?_, ?_, ?_, ?_, ?_, ?_, rfl, ?henv, ?hstore, ?hst⟩
     case henv =>
      repeat' (first | rfl | refine yac ?_ ?_ | refine yae ?_ ?_ ?_ ?_ | refine yah ?_ | refine yaf ?_ | refine yai ?_ | refine yaj ?_ | refine yan ?_ ?_ ?_ | refine yak ?_ ?_ ?_ | refine yal ?_ | refine yag ?_ ?_ | refine yad ?_ ?_)
      all_goals (first | (simp; done) | omega | (simp; omega))
     case hstore =>
      repeat' (first | rfl | refine yac ?_ ?_ | refine yae ?_ ?_ ?_ ?_ | refine yah ?_ | refine yaf ?_ | refine yai ?_ | refine yaj ?_ | refine yan ?_ ?_ ?_ | refine yak ?_ ?_ ?_ | refine yal ?_ | refine yag ?_ ?_ | refine yad ?_ ?_)
      all_goals (first | (simp; done) | omega | (simp; omega))
     case hst =>
      omega
     case hm => omega
    ·intro hb
     try simp only [hB, decide_eq_true_eq, decide_eq_false_iff_not] at hb
     have hin : i = n := by omega
     rw [hin, yfo hYl]
     have htY : Y.take n = Y := List.take_of_length_le (by omega)
     have htY2 : (yar Y).take n = yar Y := List.take_of_length_le (by rw [yab]; omega)
     refine AW.keep [1, 2, 5, 6, 7, 8, 9] [2, 15, 36] ?_
     try simp only [go_sem, reduceIte, reduceCtorEq, zA, zM, zE, zL, zD, zS, zP, zB, zI, zR]
     refine AW.exit ?_
     rw [← hQl3]
     refine hK16 _ _ _ ?_; clear hK16
     refine AW.seq fun K21 hK21 => ?_
     refine AW.regionK 0 (fun ii => if ii = 2 then some (.reads true (.tup [.int .i64 (c : Nat), .int .i64 0])) else none) [1, 2, 5, 6, 7, 8, 11] [2, 15] ?_
     simp only [go_sem, reduceIte, reduceCtorEq, zA, zM, zE, zL, zD, zS, zP, zB, zI, zR, yaa, yab, htY, htY2]
     repeat with_reducible refine cj ?_ ?_
     all_goals try first | (exact hr2) | omega | exact ent (by kernel_rfl)
     refine hK21 _ _ _ ?_; clear hK21
     refine AW.regionK 0 (fun _ => none) [1, 2, 5, 6, 7, 8] [2, 15] ?_
     simp only [go_sem, reduceIte, reduceCtorEq, zA, zM, zE, zL, zD, zS, zP, zB, zI, zR, yaa, yab, hsum]
     repeat with_reducible refine cj ?_ ?_
     all_goals try first | omega
     exact hJ3 _ _ _ _ _
   ·intro hb
    try simp only [hB, decide_eq_true_eq, decide_eq_false_iff_not] at hb
    rw [hs0 hb] at hJ3
    refine AW.keep [1, 2, 5, 6, 7, 8] [2, 15] ?_
    try simp only [go_sem, reduceIte, reduceCtorEq, zA, zM, zE, zL, zD, zS, zP, zB, zI, zR]
    refine AW.skip ?_
    exact hJ3 _ _ _ _ _
  ·intro hb
   try simp only [hB, decide_eq_true_eq, decide_eq_false_iff_not] at hb
   have hyx : y = x.toNat := by omega
   rw [hyx, ← hrk]
   refine AW.keep [1, 2, 5, 6, 7] [2, 15] ?_
   try simp only [go_sem, reduceIte, reduceCtorEq, zA, zM, zE, zL, zD, zS, zP, zB, zI, zR]
   refine AW.exit ?_
   rw [← hQl2]
   refine hK9 _ _ _ ?_; clear hK9
   refine AW.regionK 0 (fun _ => none) [1, 2, 5, 6, 7] [2, 15] ?_
   simp only [go_sem, reduceIte, reduceCtorEq, zA, zM, zE, zL, zD, zS, zP, zB, zI, zR, yaa, yab, hgx, hdl, bools_upd, ← hds]
   repeat with_reducible refine cj ?_ ?_
   all_goals try first | omega
   refine hK8 _ _ _ ?_; clear hK8
   refine AW.regionK 0 (fun _ => none) [1, 2, 5, 6, 7] [2, 15] ?_
   simp only [go_sem, reduceIte, reduceCtorEq, zA, zM, zE, zL, zD, zS, zP, zB, zI, zR, yaa, yab]
   repeat with_reducible refine cj ?_ ?_
   all_goals try first | omega
   rw [← hQl1]
   change Exists _
   refine ⟨_, ?hm, k + 1, ?_, ?_, ?_, ?_, rfl, ?henv, ?hstore, ?hst⟩
   case henv =>
    repeat' (first | rfl | refine yac ?_ ?_ | refine yae ?_ ?_ ?_ ?_ | refine yah ?_ | refine yaf ?_ | refine yai ?_ | refine yaj ?_ | refine yan ?_ ?_ ?_ | refine yak ?_ ?_ ?_ | refine yal ?_ | refine yag ?_ ?_ | refine yad ?_ ?_)
    all_goals (first | (simp; done) | omega | (simp; omega))
   case hstore =>
    repeat' (first | rfl | refine yac ?_ ?_ | refine yae ?_ ?_ ?_ ?_ | refine yah ?_ | refine yaf ?_ | refine yai ?_ | refine yaj ?_ | refine yan ?_ ?_ ?_ | refine yak ?_ ?_ ?_ | refine yal ?_ | refine yag ?_ ?_ | refine yad ?_ ?_)
    all_goals (first | (simp; done) | omega | (simp; omega))
   case hst =>
    omega
   case hm => omega
 ·intro hb
  try simp only [hB, decide_eq_true_eq, decide_eq_false_iff_not] at hb
  have hkn : k = n := by omega
  rw [hkn]
  refine AW.keep [6] [2, 15] ?_
  try simp only [go_sem, reduceIte, reduceCtorEq, zA, zM, zE, zL, zD, zS, zP, zB, zI, zR]
  refine AW.exit ?_
  rw [← hQl1]
  refine hK4 _ _ _ ?_; clear hK4
  refine AW.seq fun K22 hK22 => ?_
  refine AW.regionK 0 (fun _ => none) [4] [2, 15] ?_
  simp only [go_sem, reduceIte, reduceCtorEq, zA, zM, zE, zL, zD, zS, zP, zB, zI, zR, yaa, yab]
  repeat with_reducible refine cj ?_ ?_
  all_goals try first | omega
  refine hK22 _ _ _ ?_; clear hK22
  refine AW.ret ?_
  rw [← hQr]
  simp only [go_sem, reduceIte, reduceCtorEq, zA, zM, zE, zL, zD, zS, zP, zB, zI, zR, yaa, yab]
  exact Wk.refl _
end Go.Proofs.X

namespace Go.Proofs.X
open Go.AM Go
set_option maxRecDepth 100000
set_option maxHeartbeats 4000000
theorem runrank_g (n : Nat) (t : List (List Bool)) (hs : Sq n t) (hn : n ≤ 512) (hp : poB n t = true) (hbud : cntL (belL n t) n n ≤ 5000) (hcb : cE (belL n t) n n (List.replicate n false) ≤ 1125899906842624) (l : List Int) (hx : extB n (belL n t) l = true) :
  Reads Tryd.prog 29 false [relB t, .int .i64 (ya8 (belL n t) n l n : Nat)] (.rsl 1 (ints l)) := by
 have hIE := extB_iff.1 hx
 have hln := hIE.len
 have hlt : (tabR t).length = n := by rw [ycu, hs.len]
 have hrd := fun k x hx => Reads.flat (yi9 n t hs hn (dAt n l k) (ybg n l k) x hx) rfl
 have hrs := fun k hk x hx hf => Reads.flat (yrs n t hs hn hp hbud hcb l hIE k hk x hx hf) rfl
 have hbnd := fun m (hm : m < n) i hi => hIE.bound (i := i) hm hi
 have hz : List.replicate n [AV.bool false] = yar (dAt n l 0) := by simp [dAt, exD, yar]
 have hrm := yif (belL n t) n l
 have hrl := fun m (hm : m ≤ n) => hIE.rank_lt hm
 have hKb : ya8 (belL n t) n l n ≤ 1125899906842624 := by
  have h := hIE.rank_lt (Nat.zero_le n)
  have h5 : dAt n l 0 = List.replicate n false := rfl
  have h6 : ya8 (belL n t) n l 0 = 0 := rfl
  rw [h5, h6, Nat.sub_zero] at h
  omega
 unfold relB at *
 generalize belL n t = bel at *
 generalize hK : ya8 bel n l n = K at *
 refine Reads.body (rs := [.tmp 4]) Tryd.func29 rfl Tryd.ntmps29 rfl (by simp) ?_
 generalize hQr : retQ _ _ _ = Qr
 refine AW.seq fun K1 hK1 => ?_
 refine AW.regionK 0 (fun _ => none) [1, 2] [2] ?_
 simp only [go_sem, reduceIte, reduceCtorEq, zA, zM, zE, zL, zD, zS, zP, zB, zI, zR, yaa, yab, hlt]
 repeat with_reducible refine cj ?_ ?_
 all_goals try first | omega
 refine hK1 _ _ _ ?_; clear hK1
 refine AW.seq fun K2 hK2 => ?_
 refine AW.regionK 0 (fun _ => none) [1, 2, 5] [2] ?_
 simp only [go_sem, reduceIte, reduceCtorEq, zA, zM, zE, zL, zD, zS, zP, zB, zI, zR, yaa, yab, hlt]
 repeat with_reducible refine cj ?_ ?_
 all_goals try first | omega
 refine hK2 _ _ _ ?_; clear hK2
 refine AW.seq fun K3 hK3 => ?_
 refine AW.regionK 0 (fun _ => none) [1, 2, 5, 6] [2, 17] ?_
 simp only [go_sem, reduceIte, reduceCtorEq, zA, zM, zE, zL, zD, zS, zP, zB, zI, zR, yaa, yab, hlt]
 repeat with_reducible refine cj ?_ ?_
 all_goals try first | omega
 refine hK3 _ _ _ ?_; clear hK3
 refine AW.seq fun K4 hK4 => ?_
 refine AW.regionK 0 (fun _ => none) [1, 2, 5, 6, 7] [2, 17] ?_
 simp only [go_sem, reduceIte, reduceCtorEq, zA, zM, zE, zL, zD, zS, zP, zB, zI, zR, yaa, yab, hlt]
 repeat with_reducible refine cj ?_ ?_
 all_goals try first | omega
 refine hK4 _ _ _ ?_; clear hK4
 refine AW.nilOwn 7 200 1 rfl ?_
 refine AW.keep [1, 2, 5, 6, 7] [2, 17, 200] ?_
 simp only [go_sem, reduceIte, zE]
 refine AW.seq fun K5 hK5 => ?_
 refine AW.block ?_
 refine AW.loopE (fun mm ee ss kk => ∃ (k g2 v2 g3 v3 g4 v4 : Nat), n - k = mm ∧ ee = [(1, .int .i64 ((K : Int) - ya8 bel n l k)), (2, .ptr ⟨2, g2, none⟩ 0 0), (5, .int .i64 n), (6, .sl ⟨17, g3, none⟩ 0 n none), (7, .sl ⟨200, g4, none⟩ 0 k none)] ∧ ss = [(2, some ⟨g2, v2, 1, [[.rsl 2 (tabR t)]]⟩), (17, some ⟨g3, v3, 1, yar (dAt n l k)⟩), (200, some ⟨g4, v4, 1, ints (l.take k)⟩)] ∧ (k ≤ n)) ?_ ?_
 ·refine ⟨_, 0, ?_, ?_, ?_, ?_, ?_, ?_, rfl, ?henv, ?hstore, ?hst⟩
  case henv =>
   repeat' (first | rfl | refine yac ?_ ?_ | refine yae ?_ ?_ ?_ ?_ | refine yah ?_ | refine yaf ?_ | refine yai ?_ | refine yaj ?_ | refine yan ?_ ?_ ?_ | refine yak ?_ ?_ ?_ | refine yal ?_ | refine yag ?_ ?_ | refine yad ?_ ?_)
   all_goals (first | omega | rfl | (simp [ya8]))
  case hstore =>
   repeat' (first | rfl | refine yac ?_ ?_ | refine yae ?_ ?_ ?_ ?_ | refine yah ?_ | refine yaf ?_ | refine yai ?_ | refine yaj ?_ | refine yan ?_ ?_ ?_ | refine yak ?_ ?_ ?_ | refine yal ?_ | refine yag ?_ ?_ | refine yad ?_ ?_)
   all_goals (first | rw [hz] | rfl)
  case hst =>
   first | trivial | omega | (simp; done) | (simp; omega)
 rintro mm ee ss kk ⟨k, g2, v2, g3, v3, g4, v4, rfl, rfl, rfl, hI⟩
 generalize hQl1 : ya9 _ _ = Ql1
 have hdl := ybg n l k
 have hbt : (yar (dAt n l k)).take n = yar (dAt n l k) := List.take_of_length_le (by rw [yab]; omega)
 refine AW.seq fun K6 hK6 => ?_
 refine AW.seq fun K7 hK7 => ?_
 refine AW.regionK 0 (fun _ => none) [1, 2, 5, 6, 7, 21] [2, 17, 200] ?_
 simp only [go_sem, reduceIte, reduceCtorEq, zA, zM, zE, zL, zD, zS, zP, zB, zI, zR, yaa, yab, hlt]
 repeat with_reducible refine cj ?_ ?_
 all_goals try first | omega
 refine hK7 _ _ _ ?_; clear hK7
 refine AW.cond rfl (by simp only [go_sem, reduceIte, reduceCtorEq, zA, zM, zE, zL, zD, zS, zP, zB, zI, zR]) ?_ ?_
 ·intro hb
  try simp only [hB, decide_eq_true_eq, decide_eq_false_iff_not] at hb
  have hk : k < n := by omega
  obtain ⟨hx0, hx1⟩ := hIE.rng k hk
  have hfx := hIE.free k hk
  have hds := ycf (n := n) (l := l) (m := k) (by omega)
  have hrdk := hrd k
  have hrsk := hrs k hk
  have hbd := hbnd k hk
  have hrk : ya8 bel n l (k + 1) = ya8 bel n l k + sumF (yaq bel (dAt n l k)) (fun x => cE bel n (n - (k + 1)) ((dAt n l k).set x true)) (l.getD k 0).toNat := rfl
  have hr1 := hrm (k + 1) n (by omega)
  have hr2 := hrl (k + 1) (by omega)
  have htk : l.take (k + 1) = l.take k ++ [l.getD k 0] := by rw [List.take_add_one, List.getElem?_eq_getElem (by omega)]; simp [List.getD_eq_getElem?_getD, List.getElem?_eq_getElem (show k < l.length by omega)]
  have hlt2 : (ints (l.take k)).take k = ints (l.take k) := List.take_of_length_le (by rw [yaa]; simp; omega)
  rw [hds] at hr2
  rw [hK] at hr1
  generalize hX : l.getD k 0 = x at *
  generalize hD : dAt n l k = d at *
  refine AW.skip ?_
  refine hK6 _ _ _ ?_; clear hK6
  refine AW.block ?_
  refine AW.seq fun K8 hK8 => ?_
  refine AW.regionK 0 (fun _ => none) [1, 2, 5, 6, 7, 8] [2, 17, 200] ?_
  simp only [go_sem, reduceIte, reduceCtorEq, zA, zM, zE, zL, zD, zS, zP, zB, zI, zR, yaa, yab, hlt]
  repeat with_reducible refine cj ?_ ?_
  all_goals try first | omega
  refine hK8 _ _ _ ?_; clear hK8
  refine AW.block ?_
  refine AW.loopE (fun mm ee ss kk => ∃ (y g2 v2 g3 v3 g4 v4 : Nat), n - y = mm ∧ ee = [(1, .int .i64 ((K : Int) - (ya8 bel n l k + sumF (yaq bel d) (fun x => cE bel n (n - (k + 1)) (d.set x true)) y : Nat))), (2, .ptr ⟨2, g2, none⟩ 0 0), (5, .int .i64 n), (6, .sl ⟨17, g3, none⟩ 0 n none), (7, .sl ⟨200, g4, none⟩ 0 k none), (8, .int .i64 (y : Nat))] ∧ ss = [(2, some ⟨g2, v2, 1, [[.rsl 2 (tabR t)]]⟩), (17, some ⟨g3, v3, 1, yar d⟩), (200, some ⟨g4, v4, 1, ints (l.take k)⟩)] ∧ ((y : Int) ≤ x)) ?_ ?_
  ·refine ⟨_, 0, ?_, ?_, ?_, ?_, ?_, ?_, rfl, ?henv, ?hstore, ?hst⟩
   case henv =>
    repeat' (first | rfl | refine yac ?_ ?_ | refine yae ?_ ?_ ?_ ?_ | refine yah ?_ | refine yaf ?_ | refine yai ?_ | refine yaj ?_ | refine yan ?_ ?_ ?_ | refine yak ?_ ?_ ?_ | refine yal ?_ | refine yag ?_ ?_ | refine yad ?_ ?_)
    all_goals (first | (simp; done) | omega | (simp; omega))
   case hstore =>
    repeat' (first | rfl | refine yac ?_ ?_ | refine yae ?_ ?_ ?_ ?_ | refine yah ?_ | refine yaf ?_ | refine yai ?_ | refine yaj ?_ | refine yan ?_ ?_ ?_ | refine yak ?_ ?_ ?_ | refine yal ?_ | refine yag ?_ ?_ | refine yad ?_ ?_)
    all_goals (first | (simp; done) | omega | (simp; omega))
   case hst =>
    first | trivial | omega | (simp; done) | (simp; omega)
  rintro mm ee ss kk ⟨y, g2, v2, g3, v3, g4, v4, rfl, rfl, rfl, hI⟩
  generalize hQl2 : ya9 _ _ = Ql2
  refine AW.seq fun K9 hK9 => ?_
  refine AW.seq fun K10 hK10 => ?_
  refine AW.regionK 0 (fun _ => none) [1, 2, 5, 6, 7, 8, 24] [2, 17, 200] ?_
  simp only [go_sem, reduceIte, reduceCtorEq, zA, zM, zE, zL, zD, zS, zP, zB, zI, zR, yaa, yab, hlt]
  repeat with_reducible refine cj ?_ ?_
  all_goals try first | omega
  refine hK10 _ _ _ ?_; clear hK10
  refine AW.cond rfl (by simp only [go_sem, reduceIte, reduceCtorEq, zA, zM, zE, zL, zD, zS, zP, zB, zI, zR]) ?_ ?_
  ·intro hb
   try simp only [hB, decide_eq_true_eq, decide_eq_false_iff_not] at hb
   have hyn : y < n := by omega
   have hr3 := hrdk y hyn
   have hr4 := hrsk y hyn
   have hb3 := hbd (y + 1) (by omega)
   have hs1 : yaq bel d y = true → sumF (yaq bel d) (fun x => cE bel n (n - (k + 1)) (d.set x true)) (y + 1) = sumF (yaq bel d) (fun x => cE bel n (n - (k + 1)) (d.set x true)) y + cE bel n (n - (k + 1)) (d.set y true) := fun h => yb2 _ h
   have hs0 : yaq bel d y = false → sumF (yaq bel d) (fun x => cE bel n (n - (k + 1)) (d.set x true)) (y + 1) = sumF (yaq bel d) (fun x => cE bel n (n - (k + 1)) (d.set x true)) y := fun h => yel _ h
   have hsm := ydz (yaq bel d) (fun x => cE bel n (n - (k + 1)) (d.set x true)) (y + 1) x.toNat
   refine AW.skip ?_
   refine hK9 _ _ _ ?_; clear hK9
   refine AW.seq fun K11 hK11 => ?_
   have hB3 : ∀ (g2 v2 g3 v3 g4 v4 : Nat) (hq3 : (y : Int) + 1 ≤ x) (kk : Nat), K11 [(1, .int .i64 ((K : Int) - (ya8 bel n l k + sumF (yaq bel d) (fun x => cE bel n (n - (k + 1)) (d.set x true)) (y + 1) : Nat))), (2, .ptr ⟨2, g2, none⟩ 0 0), (5, .int .i64 n), (6, .sl ⟨17, g3, none⟩ 0 n none), (7, .sl ⟨200, g4, none⟩ 0 k none), (8, .int .i64 (y : Nat))] [(2, some ⟨g2, v2, 1, [[.rsl 2 (tabR t)]]⟩), (17, some ⟨g3, v3, 1, yar d⟩), (200, some ⟨g4, v4, 1, ints (l.take k)⟩)] kk := by
    intro g2 v2 g3 v3 g4 v4 hq3 kk
    refine hK11 _ _ _ ?_; clear hK11
    refine AW.regionK 0 (fun _ => none) [1, 2, 5, 6, 7, 8] [2, 17, 200] ?_
    simp only [go_sem, reduceIte, reduceCtorEq, zA, zM, zE, zL, zD, zS, zP, zB, zI, zR, yaa, yab, hlt]
    repeat with_reducible refine cj ?_ ?_
    all_goals try first | omega
    rw [← hQl2]
    change Exists _
    refine ⟨_, ?hm, y + 1, ?_, ?_, ?_, ?_, ?_, ?_, rfl, ?henv, ?hstore, ?hst⟩
    case henv =>
     repeat' (first | rfl | refine yac ?_ ?_ | refine yae ?_ ?_ ?_ ?_ | refine yah ?_ | refine yaf ?_ | refine yai ?_ | refine yaj ?_ | refine yan ?_ ?_ ?_ | refine yak ?_ ?_ ?_ | refine yal ?_ | refine yag ?_ ?_ | refine yad ?_ ?_)
     all_goals (first | (simp; done) | omega | (simp; omega))
    case hstore =>
     repeat' (first | rfl | refine yac ?_ ?_ | refine yae ?_ ?_ ?_ ?_ | refine yah ?_ | refine yaf ?_ | refine yai ?_ | refine yaj ?_ | refine yan ?_ ?_ ?_ | refine yak ?_ ?_ ?_ | refine yal ?_ | refine yag ?_ ?_ | refine yad ?_ ?_)
     all_goals (first | (simp; done) | omega | (simp; omega))
    case hst =>
     exact hq3
    case hm => omega
   refine AW.block ?_
   refine AW.seq fun K12 hK12 => ?_
   refine AW.seq fun K13 hK13 => ?_
   refine AW.regionK 0 (fun ii => if ii = 3 then some (.reads true (.bool (yaq bel d y))) else none) [1, 2, 5, 6, 7, 8, 31] [2, 17, 200] ?_
   simp only [go_sem, reduceIte, reduceCtorEq, zA, zM, zE, zL, zD, zS, zP, zB, zI, zR, yaa, yab, hlt, hbt]
   repeat with_reducible refine cj ?_ ?_
   all_goals try first | (exact hr3) | omega | exact ent (by kernel_rfl)
   refine hK13 _ _ _ ?_; clear hK13
   refine AW.cond rfl (by simp only [go_sem, reduceIte, reduceCtorEq, zA, zM, zE, zL, zD, zS, zP, zB, zI, zR]) ?_ ?_
   ·intro hb
    try simp only [hB, decide_eq_true_eq, decide_eq_false_iff_not] at hb
    have hf : yaq bel d y = false := by simpa using hb
    rw [hs0 hf] at hB3
    have hq3 : (y : Int) + 1 ≤ x := by
     apply Classical.byContradiction
     intro hne
     rw [show y = x.toNat by omega, hfx] at hf; cases hf
    refine AW.keep [1, 2, 5, 6, 7, 8] [2, 17, 200] ?_
    try simp only [go_sem, reduceIte, reduceCtorEq, zA, zM, zE, zL, zD, zS, zP, zB, zI, zR]
    refine AW.exit ?_
    exact hB3 _ _ _ _ _ _ hq3 _
   ·intro hb
    try simp only [hB, decide_eq_true_eq, decide_eq_false_iff_not] at hb
    have hf : yaq bel d y = true := by simpa using hb
    have hr4 := hr4 hf
    have hse := hs1 hf
    have hYl : (d.set y true).length = n := by rw [List.length_set]; exact hdl
    have hz2 : List.replicate n [AV.bool false] = yar (ycv (d.set y true) n 0) := by rw [yeg]; simp [yar]
    have hYg : ∀ i, i < n → (d.set y true).getD i false = (d.getD i false || decide ((i : Int) = (y : Int))) := fun i hi => by
     rw [yfm]
     by_cases e : y = i
     ·subst e; rw [if_pos ⟨rfl, by omega⟩]; simp
     ·rw [if_neg (fun h => e h.1), decide_eq_false (by omega)]; simp
    generalize hYd : d.set y true = Y at *
    refine AW.skip ?_
    refine hK12 _ _ _ ?_; clear hK12
    refine AW.seq fun K14 hK14 => ?_
    refine AW.regionK 0 (fun _ => none) [1, 2, 5, 6, 7, 8, 9] [2, 17, 33, 200] ?_
    simp only [go_sem, reduceIte, reduceCtorEq, zA, zM, zE, zL, zD, zS, zP, zB, zI, zR, yaa, yab, hlt]
    repeat with_reducible refine cj ?_ ?_
    all_goals try first | omega
    refine hK14 _ _ _ ?_; clear hK14
    refine AW.seq fun K15 hK15 => ?_
    refine AW.seq fun K16 hK16 => ?_
    refine AW.regionK 0 (fun _ => none) [1, 2, 5, 6, 7, 8, 9, 10] [2, 17, 33, 200] ?_
    simp only [go_sem, reduceIte, reduceCtorEq, zA, zM, zE, zL, zD, zS, zP, zB, zI, zR, yaa, yab, hlt]
    repeat with_reducible refine cj ?_ ?_
    all_goals try first | omega
    refine hK16 _ _ _ ?_; clear hK16
    refine AW.block ?_
    refine AW.loopE (fun mm ee ss kk => ∃ (i g2 v2 g3 v3 g4 v4 g5 v5 : Nat), n - i = mm ∧ ee = [(1, .int .i64 ((K : Int) - (ya8 bel n l k + sumF (yaq bel d) (fun x => cE bel n (n - (k + 1)) (d.set x true)) y : Nat))), (2, .ptr ⟨2, g2, none⟩ 0 0), (5, .int .i64 n), (6, .sl ⟨17, g3, none⟩ 0 n none), (7, .sl ⟨200, g4, none⟩ 0 k none), (8, .int .i64 (y : Nat)), (9, .sl ⟨33, g5, none⟩ 0 n none), (10, .int .i64 (i : Nat))] ∧ ss = [(2, some ⟨g2, v2, 1, [[.rsl 2 (tabR t)]]⟩), (17, some ⟨g3, v3, 1, yar d⟩), (33, some ⟨g5, v5, 1, yar (ycv Y n i)⟩), (200, some ⟨g4, v4, 1, ints (l.take k)⟩)] ∧ (i ≤ n)) ?_ ?_
    ·refine ⟨_, 0, ?_, ?_, ?_, ?_, ?_, ?_, ?_, ?_, rfl, ?henv, ?hstore, ?hst⟩
     case henv =>
      repeat' (first | rfl | refine yac ?_ ?_ | refine yae ?_ ?_ ?_ ?_ | refine yah ?_ | refine yaf ?_ | refine yai ?_ | refine yaj ?_ | refine yan ?_ ?_ ?_ | refine yak ?_ ?_ ?_ | refine yal ?_ | refine yag ?_ ?_ | refine yad ?_ ?_)
      all_goals (first | (simp; done) | omega | (simp; omega))
     case hstore =>
      repeat' (first | rfl | refine yac ?_ ?_ | refine yae ?_ ?_ ?_ ?_ | refine yah ?_ | refine yaf ?_ | refine yai ?_ | refine yaj ?_ | refine yan ?_ ?_ ?_ | refine yak ?_ ?_ ?_ | refine yal ?_ | refine yag ?_ ?_ | refine yad ?_ ?_)
      all_goals (rw [hz2])
     case hst =>
      first | trivial | omega | (simp; done) | (simp; omega)
    rintro mm ee ss kk ⟨i, g2, v2, g3, v3, g4, v4, g5, v5, rfl, rfl, rfl, hI⟩
    generalize hQl3 : ya9 _ _ = Ql3
    have hfl := yfn hYl hI
    refine AW.seq fun K17 hK17 => ?_
    refine AW.seq fun K18 hK18 => ?_
    refine AW.regionK 0 (fun _ => none) [1, 2, 5, 6, 7, 8, 9, 10, 36] [2, 17, 33, 200] ?_
    simp only [go_sem, reduceIte, reduceCtorEq, zA, zM, zE, zL, zD, zS, zP, zB, zI, zR, yaa, yab, hlt]
    repeat with_reducible refine cj ?_ ?_
    all_goals try first | omega
    refine hK18 _ _ _ ?_; clear hK18
    refine AW.cond rfl (by simp only [go_sem, reduceIte, reduceCtorEq, zA, zM, zE, zL, zD, zS, zP, zB, zI, zR]) ?_ ?_
    ·intro hb
     try simp only [hB, decide_eq_true_eq, decide_eq_false_iff_not] at hb
     have hin : i < n := by omega
     have hgi := ybh (l := d) (i := i) (by omega)
     have hyi := hYg i hin
     have hfs := yeh hYl hin
     rw [hyi] at hfs
     refine AW.skip ?_
     refine hK17 _ _ _ ?_; clear hK17
     refine AW.seq fun K19 hK19 => ?_
     refine AW.block ?_
     refine AW.regionK 0 (fun _ => none) [1, 2, 5, 6, 7, 8, 9, 10] [2, 17, 33, 200] ?_
     simp only [go_sem, reduceIte, reduceCtorEq, zA, zM, zE, zL, zD, zS, zP, zB, zI, zR, yaa, yab, hlt, hgi, hdl, hfl, bools_upd, hfs]
     repeat with_reducible refine cj ?_ ?_
     all_goals try first | omega | (intros; (repeat' apply And.intro) <;> first | assumption | omega | decide) | (intro hgd; exact absurd hgd (by decide)) | rfl | (simp only [go_sem, reduceIte, reduceCtorEq, zA, zM, zE, zL, zD, zS, zP, zB, zI, zR, yaa, yab, hlt, hgi, hdl, hfl, bools_upd, hfs]; done) | (intro _hgd; simp_all [go_sem]; done)
     refine hK19 _ _ _ ?_; clear hK19
     refine AW.regionK 0 (fun _ => none) [1, 2, 5, 6, 7, 8, 9, 10] [2, 17, 33, 200] ?_
     simp only [go_sem, reduceIte, reduceCtorEq, zA, zM, zE, zL, zD, zS, zP, zB, zI, zR, yaa, yab, hlt]
     repeat with_reducible refine cj ?_ ?_
     all_goals try first | omega
     rw [← hQl3]
     change Exists _
     refine ⟨_, ?hm, i + 1, ?_, ?_, ?_, ?_, ?_, ?_, ?_, ?_, rfl, ?henv, ?hstore, ?hst⟩
     case henv =>
      repeat' (first | rfl | refine yac ?_ ?_ | refine yae ?_ ?_ ?_ ?_ | refine yah ?_ | refine yaf ?_ | refine yai ?_ | refine yaj ?_ | refine yan ?_ ?_ ?_ | refine yak ?_ ?_ ?_ | refine yal ?_ | refine yag ?_ ?_ | refine yad ?_ ?_)
      all_goals (first | (simp; done) | omega | (simp; omega))
     case hstore =>
      repeat' (first | rfl | refine yac ?_ ?_ | refine yae ?_ ?_ ?_ ?_ | refine yah ?_ | refine yaf ?_ | refine yai ?_ | refine yaj ?_ | refine yan ?_ ?_ ?_ | refine yak ?_ ?_ ?_ | refine yal ?_ | refine yag ?_ ?_ | refine yad ?_ ?_)
      all_goals (first | (simp; done) | omega | (simp; omega))
     case hst =>
      omega
     case hm => omega
    ·intro hb
     try simp only [hB, decide_eq_true_eq, decide_eq_false_iff_not] at hb
     have hin : i = n := by omega
     rw [hin, yfo hYl]
     have htY : Y.take n = Y := List.take_of_length_le (by omega)
     have htY2 : (yar Y).take n = yar Y := List.take_of_length_le (by rw [yab]; omega)
     refine AW.keep [1, 2, 5, 6, 7, 8, 9] [2, 17, 33, 200] ?_
     try simp only [go_sem, reduceIte, reduceCtorEq, zA, zM, zE, zL, zD, zS, zP, zB, zI, zR]
     refine AW.exit ?_
     rw [← hQl3]
     refine hK15 _ _ _ ?_; clear hK15
     refine AW.seq fun K20 hK20 => ?_
     refine AW.regionK 0 (fun ii => if ii = 2 then some (.reads true (.tup [.int .i64 (cE bel n (n - (k + 1)) Y : Nat), .int .i64 0])) else none) [1, 2, 5, 6, 7, 8, 11] [2, 17, 200] ?_
     simp only [go_sem, reduceIte, reduceCtorEq, zA, zM, zE, zL, zD, zS, zP, zB, zI, zR, yaa, yab, hlt, htY, htY2]
     repeat with_reducible refine cj ?_ ?_
     all_goals try first | (exact hr4) | omega | exact ent (by kernel_rfl)
     refine hK20 _ _ _ ?_; clear hK20
     refine AW.seq fun K21 hK21 => ?_
     refine AW.seq fun K22 hK22 => ?_
     refine AW.regionK 0 (fun _ => none) [1, 2, 5, 6, 7, 8, 11, 59] [2, 17, 200] ?_
     simp only [go_sem, reduceIte, reduceCtorEq, zA, zM, zE, zL, zD, zS, zP, zB, zI, zR, yaa, yab, hlt]
     repeat with_reducible refine cj ?_ ?_
     all_goals try first | omega
     refine hK22 _ _ _ ?_; clear hK22
     refine AW.cond rfl (by simp only [go_sem, reduceIte, reduceCtorEq, zA, zM, zE, zL, zD, zS, zP, zB, zI, zR]) ?_ ?_
     ·intro hb
      try simp only [hB, decide_eq_true_eq, decide_eq_false_iff_not] at hb
      have hyx : x = y := by
       apply Classical.byContradiction
       intro hne
       have := hsm (by omega)
       omega
      have hyn2 : y = x.toNat := by omega
      rw [hyn2, ← hrk]
      have hyc : ((x.toNat : Nat) : Int) = x := by omega
      refine AW.seq fun K23 hK23 => ?_
      refine AW.regionK 0 (fun _ => none) [1, 2, 5, 6, 7, 8] [2, 17, 200] ?_
      simp only [go_sem, reduceIte, reduceCtorEq, zA, zM, zE, zL, zD, zS, zP, zB, zI, zR, yaa, yab, hlt, hdl, bools_upd, ← hds]
      repeat with_reducible refine cj ?_ ?_
      all_goals try first | omega
      refine hK23 _ _ _ ?_; clear hK23
      refine AW.seq fun K24 hK24 => ?_
      refine AW.regionK 0 (fun _ => none) [1, 2, 5, 6, 7] [2, 17, 200] ?_
      simp only [go_sem, reduceIte, reduceCtorEq, zA, zM, zE, zL, zD, zS, zP, zB, zI, zR, yaa, yab, hlt, hlt2, hyc, ydm, ← htk]
      repeat with_reducible refine cj ?_ ?_
      all_goals try first | omega | (simp [scP, ybj]; done) | exact ybc _ | exact ybm _ | exact ybd _
      refine hK24 _ _ _ ?_; clear hK24
      refine AW.keep [1, 2, 5, 6, 7] [2, 17, 200] ?_
      try simp only [go_sem, reduceIte, reduceCtorEq, zA, zM, zE, zL, zD, zS, zP, zB, zI, zR]
      refine AW.exit ?_
      rw [← hQl2]
      rw [← hQl1]
      change Exists _
      refine ⟨_, ?hm, k + 1, ?_, ?_, ?_, ?_, ?_, ?_, rfl, ?henv, ?hstore, ?hst⟩
      case henv =>
       repeat' (first | rfl | refine yac ?_ ?_ | refine yae ?_ ?_ ?_ ?_ | refine yah ?_ | refine yaf ?_ | refine yai ?_ | refine yaj ?_ | refine yan ?_ ?_ ?_ | refine yak ?_ ?_ ?_ | refine yal ?_ | refine yag ?_ ?_ | refine yad ?_ ?_)
       all_goals (first | (simp; done) | omega | (simp; omega))
      case hstore =>
       repeat' (first | rfl | refine yac ?_ ?_ | refine yae ?_ ?_ ?_ ?_ | refine yah ?_ | refine yaf ?_ | refine yai ?_ | refine yaj ?_ | refine yan ?_ ?_ ?_ | refine yak ?_ ?_ ?_ | refine yal ?_ | refine yag ?_ ?_ | refine yad ?_ ?_)
       all_goals (first | (simp; done) | omega | (simp; omega))
      case hst =>
       omega
      case hm => omega
     ·intro hb
      try simp only [hB, decide_eq_true_eq, decide_eq_false_iff_not] at hb
      have hyx : y ≠ x.toNat := by
       intro e
       rw [e] at hYd
       rw [hYd] at hr2
       rw [e] at hb
       omega
      have hq3 : (y : Int) + 1 ≤ x := by omega
      have hsum : (K : Int) - ((ya8 bel n l k + sumF (yaq bel d) (fun x => cE bel n (n - (k + 1)) (d.set x true)) y : Nat) : Int) - (cE bel n (n - (k + 1)) Y : Nat) = (K : Int) - ((ya8 bel n l k + sumF (yaq bel d) (fun x => cE bel n (n - (k + 1)) (d.set x true)) (y + 1) : Nat) : Int) := by rw [hse]; omega
      refine AW.skip ?_
      refine hK21 _ _ _ ?_; clear hK21
      refine AW.regionK 0 (fun _ => none) [1, 2, 5, 6, 7, 8] [2, 17, 200] ?_
      simp only [go_sem, reduceIte, reduceCtorEq, zA, zM, zE, zL, zD, zS, zP, zB, zI, zR, yaa, yab, hlt, hsum]
      repeat with_reducible refine cj ?_ ?_
      all_goals try first | omega
      exact hB3 _ _ _ _ _ _ hq3 _
  ·intro hb
   try simp only [hB, decide_eq_true_eq, decide_eq_false_iff_not] at hb
   exfalso; omega
 ·intro hb
  try simp only [hB, decide_eq_true_eq, decide_eq_false_iff_not] at hb
  have hkn : n = k := by omega
  subst hkn
  have hln2 : l.take n = l := List.take_of_length_le (by omega)
  rw [hln2]
  refine AW.keep [7] [2, 17, 200] ?_
  try simp only [go_sem, reduceIte, reduceCtorEq, zA, zM, zE, zL, zD, zS, zP, zB, zI, zR]
  refine AW.exit ?_
  rw [← hQl1]
  refine hK5 _ _ _ ?_; clear hK5
  refine AW.seq fun K25 hK25 => ?_
  refine AW.regionK 0 (fun _ => none) [4] [200] ?_
  simp only [go_sem, reduceIte, reduceCtorEq, zA, zM, zE, zL, zD, zS, zP, zB, zI, zR, yaa, yab, hlt]
  repeat with_reducible refine cj ?_ ?_
  all_goals try first | omega
  refine hK25 _ _ _ ?_; clear hK25
  refine AW.ret ?_
  rw [← hQr]
  simp only [go_sem, reduceIte, reduceCtorEq, zA, zM, zE, zL, zD, zS, zP, zB, zI, zR, yaa, yab, hlt]
  exact Wk.of_eq (by rw [hln2])
end Go.Proofs.X

namespace Go.Proofs.X
open Go.AM Go
set_option maxRecDepth 100000
set_option maxHeartbeats 4000000
theorem ranks_b (rs : List USet) (hl : ykk rs) (l : List Int) (hll : l.length ≤ 9223372036854775807) (k : Int) (hv : Reads Tryd.prog 37 false [relV rs] (.bool false)) (hv2 : Reads Tryd.prog 14 false [relV rs] (.bool false)) : Reads Tryd.prog 7 false [relV rs, .rsl 1 (ints l), .int .i64 k] (.bool true) := by
 have ha := yrj
 have hf := ysy rs hl 14
 have ht := table_e rs hv
 unfold relV at *
 have h1 := rank_e (rs.map rowV) l hv
 have h2 := yl5 (rs.map rowV) k 1 (by decide) (ynk (rs.map rowV) 1 (by decide) ht)
 refine Reads.body (rs := [.tmp 6]) Tryd.func7 rfl Tryd.ntmps7 rfl (by simp) ?_
 generalize hQr : retQ _ _ _ = Qr
 refine AW.seq fun K1 hK1 => ?_
 refine AW.regionK 0 (fun _ => none) [1, 2, 3] [3] ?_
 simp only [go_sem, reduceIte, reduceCtorEq, zA, zM, zE, zL, zD, zS, zP, zB, zI, zR, yaa]
 repeat with_reducible refine cj ?_ ?_
 all_goals try first | omega
 refine hK1 _ _ _ ?_; clear hK1
 refine AW.seq fun K2 hK2 => ?_
 refine AW.seq fun K3 hK3 => ?_
 refine AW.regionK 0 (fun ii => if ii = 0 then some (.reads false (.bool true)) else none) [1, 2, 3, 14] [3] ?_
 simp only [go_sem, reduceIte, reduceCtorEq, zA, zM, zE, zL, zD, zS, zP, zB, zI, zR, yaa]
 repeat with_reducible refine cj ?_ ?_
 all_goals try first | (exact ha) | omega | exact ent (by kernel_rfl)
 refine hK3 _ _ _ ?_; clear hK3
 refine AW.cond rfl (by simp only [go_sem, reduceIte, reduceCtorEq, zA, zM, zE, zL, zD, zS, zP, zB, zI, zR]) ?_ ?_
 ·intro hb
  try simp only [hB, decide_eq_true_eq, decide_eq_false_iff_not] at hb
  exfalso; simp at hb
 ·intro hb
  try simp only [hB, decide_eq_true_eq, decide_eq_false_iff_not] at hb
  refine AW.skip ?_
  refine hK2 _ _ _ ?_; clear hK2
  refine AW.seq fun K4 hK4 => ?_
  refine AW.seq fun K5 hK5 => ?_
  refine AW.regionK 0 (fun ii => if ii = 1 then some (.reads false (.bool (fewE rs 14))) else none) [1, 2, 3, 22] [3] ?_
  simp only [go_sem, reduceIte, reduceCtorEq, zA, zM, zE, zL, zD, zS, zP, zB, zI, zR, yaa]
  repeat with_reducible refine cj ?_ ?_
  all_goals try first | (exact hf) | (intros; (repeat' apply And.intro) <;> first | assumption | (exact hf)) | omega | exact ent (by kernel_rfl) | (intro hgd; exact absurd hgd (by decide)) | rfl | (simp only [go_sem, reduceIte, reduceCtorEq, zA, zM, zE, zL, zD, zS, zP, zB, zI, zR, yaa]; done) | (intro _hgd; simp_all [go_sem]; done)
  refine hK5 _ _ _ ?_; clear hK5
  refine AW.cond rfl (by simp only [go_sem, reduceIte, reduceCtorEq, zA, zM, zE, zL, zD, zS, zP, zB, zI, zR]) ?_ ?_
  ·intro hb
   try simp only [hB, decide_eq_true_eq, decide_eq_false_iff_not] at hb
   refine AW.seq fun K6 hK6 => ?_
   refine AW.regionK 0 (fun _ => none) [6] [] ?_
   simp only [go_sem, reduceIte, reduceCtorEq, zA, zM, zE, zL, zD, zS, zP, zB, zI, zR, yaa]
   repeat with_reducible refine cj ?_ ?_
   all_goals try first | omega
   refine hK6 _ _ _ ?_; clear hK6
   refine AW.ret ?_
   rw [← hQr]
   simp only [go_sem, reduceIte, reduceCtorEq, zA, zM, zE, zL, zD, zS, zP, zB, zI, zR, yaa]
   exact Wk.refl _
  ·intro hb
   try simp only [hB, decide_eq_true_eq, decide_eq_false_iff_not] at hb
   refine AW.skip ?_
   refine hK4 _ _ _ ?_; clear hK4
   refine AW.seq fun K7 hK7 => ?_
   refine AW.regionK 0 (fun ii => if ii = 2 then some (.reads false (.tup [.int .i64 0, .int .i64 1])) else none) [1, 2, 3, 7, 8] [3] ?_
   simp only [go_sem, reduceIte, reduceCtorEq, zA, zM, zE, zL, zD, zS, zP, zB, zI, zR, yaa]
   repeat with_reducible refine cj ?_ ?_
   all_goals try first | (exact h1) | omega | exact ent (by kernel_rfl)
   refine hK7 _ _ _ ?_; clear hK7
   refine AW.seq fun K8 hK8 => ?_
   refine AW.regionK 0 (fun ii => if ii = 2 then some (.reads false (.tup [.rsl 1 [], .int .i64 1])) else none) [1, 2, 3, 7, 8, 9, 10] [3] ?_
   simp only [go_sem, reduceIte, reduceCtorEq, zA, zM, zE, zL, zD, zS, zP, zB, zI, zR, yaa]
   repeat with_reducible refine cj ?_ ?_
   all_goals try first | (exact h2) | omega | exact ent (by kernel_rfl)
   refine hK8 _ _ _ ?_; clear hK8
   refine AW.seq fun K9 hK9 => ?_
   refine AW.seq fun K10 hK10 => ?_
   refine AW.regionK 0 (fun ii => if ii = 1 then some (.reads false (.bool false)) else none) [1, 2, 3, 7, 8, 9, 10, 37] [3] ?_
   simp only [go_sem, reduceIte, reduceCtorEq, zA, zM, zE, zL, zD, zS, zP, zB, zI, zR, yaa]
   repeat with_reducible refine cj ?_ ?_
   all_goals try first | (exact hv2) | omega | exact ent (by kernel_rfl)
   refine hK10 _ _ _ ?_; clear hK10
   refine AW.cond rfl (by simp only [go_sem, reduceIte, reduceCtorEq, zA, zM, zE, zL, zD, zS, zP, zB, zI, zR]) ?_ ?_
   ·intro hb
    try simp only [hB, decide_eq_true_eq, decide_eq_false_iff_not] at hb
    refine AW.seq fun K11 hK11 => ?_
    refine AW.regionK 0 (fun _ => none) [6] [] ?_
    simp only [go_sem, reduceIte, reduceCtorEq, zA, zM, zE, zL, zD, zS, zP, zB, zI, zR, yaa]
    repeat with_reducible refine cj ?_ ?_
    all_goals try first | omega | (intros; (repeat' apply And.intro) <;> first | assumption | omega | decide) | (intro hgd; exact absurd hgd (by decide)) | rfl | (simp only [go_sem, reduceIte, reduceCtorEq, zA, zM, zE, zL, zD, zS, zP, zB, zI, zR, yaa]; done) | (intro _hgd; simp_all [go_sem]; done)
    refine hK11 _ _ _ ?_; clear hK11
    refine AW.ret ?_
    rw [← hQr]
    simp only [go_sem, reduceIte, reduceCtorEq, zA, zM, zE, zL, zD, zS, zP, zB, zI, zR, yaa]
    exact Wk.of_eq (by simp)
   ·intro hb
    try simp only [hB, decide_eq_true_eq, decide_eq_false_iff_not] at hb
    exfalso; simp at hb
theorem yig (n : Nat) (t : List (List Bool)) (hs : Sq n t) (hn : n ≤ 512) (hp : poB n t = true) (l : List Int) (hll : l.length ≤ 9223372036854775807) (k : Int) (eb : Bool) (ra re a g ue : Int) (ul : List Int) (hul : ul.length ≤ 512)
  (hR : Reads Tryd.prog 26 false [relB t, .rsl 1 (ints l)] (.tup [.int .i64 ra, .int .i64 re]))
  (hU : Reads Tryd.prog 27 false [relB t, .int .i64 k] (.tup [.rsl 1 (ints ul), .int .i64 ue]))
  (hC : Reads Tryd.prog 15 false [relB t] (.tup [.int .i64 a, .int .i64 g]))
  (hIs : Reads Tryd.prog 17 false [relB t, .rsl 1 (ints l)] (.bool eb))
  (c1 : eb = false → ra = 0 ∧ re = 11) (c2 : eb = true → g ≠ 0 → ra = 0 ∧ re = g) (c3 : eb = true → g = 0 → re = 0 ∧ Reads Tryd.prog 28 false [relB t, .rsl 1 (ints l)] (.int .i64 ra))
  (d1 : g ≠ 0 → ul = [] ∧ ue = g) (d2 : g = 0 → (k < 0 ∨ a ≤ k) → ul = [] ∧ ue = 2) (d3 : g = 0 → ¬ (k < 0 ∨ a ≤ k) → ue = 0 ∧ Reads Tryd.prog 29 false [relB t, .int .i64 k] (.rsl 1 (ints ul))) :
  Reads Tryd.prog 7 false [relB t, .rsl 1 (ints l), .int .i64 k] (.bool true) := by
 have ha := yrj
 have hf := ysy (t.map SB) (longR_SB hs hn) 14
 rw [← yjv] at hf
 generalize fewE (t.map SB) 14 = fb at *
 have hv2 := yj0 n t hs hn
 rw [hp] at hv2
 have hlt : (tabR t).length = n := by rw [ycu, hs.len]
 have h5 := ylx ul (by omega)
 unfold relB at *
 refine Reads.body (rs := [.tmp 6]) Tryd.func7 rfl Tryd.ntmps7 rfl (by simp) ?_
 generalize hQr : retQ _ _ _ = Qr
 refine AW.seq fun K1 hK1 => ?_
 refine AW.regionK 0 (fun _ => none) [1, 2, 3] [3] ?_
 simp only [go_sem, reduceIte, reduceCtorEq, zA, zM, zE, zL, zD, zS, zP, zB, zI, zR, yaa, hlt]
 repeat with_reducible refine cj ?_ ?_
 all_goals try first | omega
 refine hK1 _ _ _ ?_; clear hK1
 refine AW.seq fun K2 hK2 => ?_
 refine AW.seq fun K3 hK3 => ?_
 refine AW.regionK 0 (fun ii => if ii = 0 then some (.reads false (.bool true)) else none) [1, 2, 3, 14] [3] ?_
 simp only [go_sem, reduceIte, reduceCtorEq, zA, zM, zE, zL, zD, zS, zP, zB, zI, zR, yaa, hlt]
 repeat with_reducible refine cj ?_ ?_
 all_goals try first | (exact ha) | omega | exact ent (by kernel_rfl)
 refine hK3 _ _ _ ?_; clear hK3
 refine AW.cond rfl (by simp only [go_sem, reduceIte, reduceCtorEq, zA, zM, zE, zL, zD, zS, zP, zB, zI, zR]) ?_ ?_
 ·intro hb
  try simp only [hB, decide_eq_true_eq, decide_eq_false_iff_not] at hb
  exfalso; simp at hb
 ·intro hb
  try simp only [hB, decide_eq_true_eq, decide_eq_false_iff_not] at hb
  refine AW.skip ?_
  refine hK2 _ _ _ ?_; clear hK2
  refine AW.seq fun K4 hK4 => ?_
  refine AW.seq fun K5 hK5 => ?_
  refine AW.regionK 0 (fun ii => if ii = 1 then some (.reads false (.bool fb)) else none) [1, 2, 3, 22] [3] ?_
  simp only [go_sem, reduceIte, reduceCtorEq, zA, zM, zE, zL, zD, zS, zP, zB, zI, zR, yaa, hlt]
  repeat with_reducible refine cj ?_ ?_
  all_goals try first | (exact hf) | (intros; (repeat' apply And.intro) <;> first | assumption | (exact hf)) | omega | exact ent (by kernel_rfl) | (intro hgd; exact absurd hgd (by decide)) | rfl | (simp only [go_sem, reduceIte, reduceCtorEq, zA, zM, zE, zL, zD, zS, zP, zB, zI, zR, yaa, hlt]; done) | (intro _hgd; simp_all [go_sem]; done)
  refine hK5 _ _ _ ?_; clear hK5
  refine AW.cond rfl (by simp only [go_sem, reduceIte, reduceCtorEq, zA, zM, zE, zL, zD, zS, zP, zB, zI, zR]) ?_ ?_
  ·intro hb
   try simp only [hB, decide_eq_true_eq, decide_eq_false_iff_not] at hb
   refine AW.seq fun K6 hK6 => ?_
   refine AW.regionK 0 (fun _ => none) [6] [3] ?_
   simp only [go_sem, reduceIte, reduceCtorEq, zA, zM, zE, zL, zD, zS, zP, zB, zI, zR, yaa, hlt]
   repeat with_reducible refine cj ?_ ?_
   all_goals try first | omega
   refine hK6 _ _ _ ?_; clear hK6
   refine AW.ret ?_
   rw [← hQr]
   simp only [go_sem, reduceIte, reduceCtorEq, zA, zM, zE, zL, zD, zS, zP, zB, zI, zR, yaa, hlt]
   exact Wk.refl _
  ·intro hb
   try simp only [hB, decide_eq_true_eq, decide_eq_false_iff_not] at hb
   refine AW.skip ?_
   refine hK4 _ _ _ ?_; clear hK4
   refine AW.seq fun K7 hK7 => ?_
   refine AW.regionK 0 (fun ii => if ii = 2 then some (.reads false (.tup [.int .i64 ra, .int .i64 re])) else none) [1, 2, 3, 7, 8] [3] ?_
   simp only [go_sem, reduceIte, reduceCtorEq, zA, zM, zE, zL, zD, zS, zP, zB, zI, zR, yaa, hlt]
   repeat with_reducible refine cj ?_ ?_
   all_goals try first | (exact hR) | omega | exact ent (by kernel_rfl)
   refine hK7 _ _ _ ?_; clear hK7
   refine AW.seq fun K8 hK8 => ?_
   refine AW.regionK 0 (fun ii => if ii = 2 then some (.reads false (.tup [.rsl 1 (ints ul), .int .i64 ue])) else none) [1, 2, 3, 7, 8, 9, 10] [3] ?_
   simp only [go_sem, reduceIte, reduceCtorEq, zA, zM, zE, zL, zD, zS, zP, zB, zI, zR, yaa, hlt]
   repeat with_reducible refine cj ?_ ?_
   all_goals try first | (exact hU) | omega | exact ent (by kernel_rfl)
   refine hK8 _ _ _ ?_; clear hK8
   refine AW.seq fun K9 hK9 => ?_
   refine AW.seq fun K10 hK10 => ?_
   refine AW.regionK 0 (fun ii => if ii = 1 then some (.reads false (.bool true)) else none) [1, 2, 3, 7, 8, 9, 10, 37] [3] ?_
   simp only [go_sem, reduceIte, reduceCtorEq, zA, zM, zE, zL, zD, zS, zP, zB, zI, zR, yaa, hlt]
   repeat with_reducible refine cj ?_ ?_
   all_goals try first | (exact hv2) | omega | exact ent (by kernel_rfl)
   refine hK10 _ _ _ ?_; clear hK10
   refine AW.cond rfl (by simp only [go_sem, reduceIte, reduceCtorEq, zA, zM, zE, zL, zD, zS, zP, zB, zI, zR]) ?_ ?_
   ·intro hb
    try simp only [hB, decide_eq_true_eq, decide_eq_false_iff_not] at hb
    exfalso; simp at hb
   ·intro hb
    try simp only [hB, decide_eq_true_eq, decide_eq_false_iff_not] at hb
    refine AW.skip ?_
    refine hK9 _ _ _ ?_; clear hK9
    refine AW.seq fun K11 hK11 => ?_
    refine AW.regionK 0 (fun ii => if ii = 1 then some (.reads false (.tup [.int .i64 a, .int .i64 g])) else none) [1, 2, 3, 7, 8, 9, 10, 11, 12] [3] ?_
    simp only [go_sem, reduceIte, reduceCtorEq, zA, zM, zE, zL, zD, zS, zP, zB, zI, zR, yaa, hlt]
    repeat with_reducible refine cj ?_ ?_
    all_goals try first | (exact hC) | omega | exact ent (by kernel_rfl)
    refine hK11 _ _ _ ?_; clear hK11
    refine AW.seq fun K12 hK12 => ?_
    refine AW.seq fun K13 hK13 => ?_
    refine AW.regionK 0 (fun ii => if ii = 2 then some (.reads false (.bool eb)) else none) [1, 2, 3, 7, 8, 9, 10, 11, 12, 61] [3] ?_
    simp only [go_sem, reduceIte, reduceCtorEq, zA, zM, zE, zL, zD, zS, zP, zB, zI, zR, yaa, hlt]
    repeat with_reducible refine cj ?_ ?_
    all_goals try first | (exact hIs) | omega | exact ent (by kernel_rfl)
    refine hK13 _ _ _ ?_; clear hK13
    have hJ4 : ∀ (z : Nat) (kk : Nat), K12 [(2, .int .i64 k), (3, .ptr ⟨3, 0, none⟩ 0 0), (9, .rsl 1 (ints ul)), (10, .int .i64 ue), (11, .int .i64 a), (12, .int .i64 g)] [(3, some ⟨0, 0, 1, [[.rsl 2 (tabR t)]]⟩)] kk := by
     intro z kk
     refine hK12 _ _ _ ?_; clear hK12
     refine AW.seq fun K20 hK20 => ?_
     refine AW.block ?_
     refine AW.seq fun K21 hK21 => ?_
     refine AW.regionK 0 (fun _ => none) [2, 3, 9, 10, 11, 12, 92] [3] ?_
     simp only [go_sem, reduceIte, reduceCtorEq, zA, zM, zE, zL, zD, zS, zP, zB, zI, zR, yaa, hlt]
     repeat with_reducible refine cj ?_ ?_
     all_goals try first | omega
     refine hK21 _ _ _ ?_; clear hK21
     refine AW.cond rfl (by simp only [go_sem, reduceIte, reduceCtorEq, zA, zM, zE, zL, zD, zS, zP, zB, zI, zR]) ?_ ?_
     ·intro hb
      try simp only [hB, decide_eq_true_eq, decide_eq_false_iff_not] at hb
      have hg9 : g ≠ 0 := by simpa using hb
      obtain ⟨r1, r2⟩ := d1 hg9
      refine AW.seq fun K22 hK22 => ?_
      refine AW.regionK 0 (fun _ => none) [6] [3] ?_
      simp only [go_sem, reduceIte, reduceCtorEq, zA, zM, zE, zL, zD, zS, zP, zB, zI, zR, yaa, hlt]
      repeat with_reducible refine cj ?_ ?_
      all_goals try first | omega | (intros; (repeat' apply And.intro) <;> first | assumption | omega | decide) | (intro hgd; exact absurd hgd (by decide)) | rfl | (simp only [go_sem, reduceIte, reduceCtorEq, zA, zM, zE, zL, zD, zS, zP, zB, zI, zR, yaa, hlt]; done) | (intro _hgd; simp_all [go_sem]; done)
      refine hK22 _ _ _ ?_; clear hK22
      refine AW.ret ?_
      rw [← hQr]
      simp only [go_sem, reduceIte, reduceCtorEq, zA, zM, zE, zL, zD, zS, zP, zB, zI, zR, yaa, hlt]
      exact Wk.of_eq (by simp [r1, r2])
     ·intro hb
      try simp only [hB, decide_eq_true_eq, decide_eq_false_iff_not] at hb
      have hg9 : g = 0 := by simpa using hb
      refine AW.seq fun K23 hK23 => ?_
      refine AW.regionK 0 (fun _ => none) [2, 3, 9, 10, 103] [3] ?_
      simp only [go_sem, reduceIte, reduceCtorEq, zA, zM, zE, zL, zD, zS, zP, zB, zI, zR, yaa, hlt]
      repeat with_reducible refine cj ?_ ?_
      all_goals try first | omega | (intros; (repeat' apply And.intro) <;> first | assumption | omega | decide) | (intro hgd; exact absurd hgd (by decide)) | rfl | (simp only [go_sem, reduceIte, reduceCtorEq, zA, zM, zE, zL, zD, zS, zP, zB, zI, zR, yaa, hlt]; done) | (intro _hgd; simp_all [go_sem]; done)
      refine hK23 _ _ _ ?_; clear hK23
      refine AW.cond rfl (by simp only [go_sem, reduceIte, reduceCtorEq, zA, zM, zE, zL, zD, zS, zP, zB, zI, zR]) ?_ ?_
      ·intro hb
       try simp only [hB, decide_eq_true_eq, decide_eq_false_iff_not] at hb
       have hk10 : k < 0 ∨ a ≤ k := by simpa using hb
       obtain ⟨r1, r2⟩ := d2 hg9 hk10
       refine AW.seq fun K24 hK24 => ?_
       refine AW.regionK 0 (fun _ => none) [6] [3] ?_
       simp only [go_sem, reduceIte, reduceCtorEq, zA, zM, zE, zL, zD, zS, zP, zB, zI, zR, yaa, hlt]
       repeat with_reducible refine cj ?_ ?_
       all_goals try first | omega | (intros; (repeat' apply And.intro) <;> first | assumption | omega | decide) | (intro hgd; exact absurd hgd (by decide)) | rfl | (simp only [go_sem, reduceIte, reduceCtorEq, zA, zM, zE, zL, zD, zS, zP, zB, zI, zR, yaa, hlt]; done) | (intro _hgd; simp_all [go_sem]; done)
       refine hK24 _ _ _ ?_; clear hK24
       refine AW.ret ?_
       rw [← hQr]
       simp only [go_sem, reduceIte, reduceCtorEq, zA, zM, zE, zL, zD, zS, zP, zB, zI, zR, yaa, hlt]
       exact Wk.of_eq (by simp [r1, r2])
      ·intro hb
       try simp only [hB, decide_eq_true_eq, decide_eq_false_iff_not] at hb
       have hk10 : ¬ (k < 0 ∨ a ≤ k) := by omega
       obtain ⟨r1, r2⟩ := d3 hg9 hk10
       refine AW.skip ?_
       refine hK20 _ _ _ ?_; clear hK20
       refine AW.seq fun K25 hK25 => ?_
       refine AW.regionK 0 (fun ii => if ii = 11 then some (.reads false (.rsl 1 (ints ul))) else if ii = 12 then some (.reads false (.bool true)) else none) [6] [3] ?_
       simp only [go_sem, reduceIte, reduceCtorEq, zA, zM, zE, zL, zD, zS, zP, zB, zI, zR, yaa, hlt]
       repeat with_reducible refine cj ?_ ?_
       all_goals try first | ((intros; (repeat' apply And.intro) <;> first | assumption | exact r2 | exact h5)) | (intros; (repeat' apply And.intro) <;> first | assumption | ((intros; (repeat' apply And.intro) <;> first | assumption | exact r2 | exact h5))) | omega | exact ent (by kernel_rfl) | (intro hgd; exact absurd hgd (by decide)) | rfl | (simp only [go_sem, reduceIte, reduceCtorEq, zA, zM, zE, zL, zD, zS, zP, zB, zI, zR, yaa, hlt]; done) | (intro _hgd; simp_all [go_sem]; done)
       refine hK25 _ _ _ ?_; clear hK25
       refine AW.ret ?_
       rw [← hQr]
       simp only [go_sem, reduceIte, reduceCtorEq, zA, zM, zE, zL, zD, zS, zP, zB, zI, zR, yaa, hlt]
       exact Wk.of_eq (by simp [r1])
    refine AW.cond rfl (by simp only [go_sem, reduceIte, reduceCtorEq, zA, zM, zE, zL, zD, zS, zP, zB, zI, zR]) ?_ ?_
    ·intro hb
     try simp only [hB, decide_eq_true_eq, decide_eq_false_iff_not] at hb
     have he4 : eb = false := by simpa using hb
     obtain ⟨r1, r2⟩ := c1 he4
     refine AW.seq fun K26 hK26 => ?_
     refine AW.regionK 0 (fun _ => none) [2, 3, 9, 10, 11, 12, 67] [3] ?_
     simp only [go_sem, reduceIte, reduceCtorEq, zA, zM, zE, zL, zD, zS, zP, zB, zI, zR, yaa, hlt]
     repeat with_reducible refine cj ?_ ?_
     all_goals try first | omega | (intros; (repeat' apply And.intro) <;> first | assumption | omega | decide) | (intro hgd; exact absurd hgd (by decide)) | rfl | (simp only [go_sem, reduceIte, reduceCtorEq, zA, zM, zE, zL, zD, zS, zP, zB, zI, zR, yaa, hlt]; done) | (intro _hgd; simp_all [go_sem]; done)
     refine hK26 _ _ _ ?_; clear hK26
     refine AW.cond rfl (by simp only [go_sem, reduceIte, reduceCtorEq, zA, zM, zE, zL, zD, zS, zP, zB, zI, zR]) ?_ ?_
     ·intro hb
      try simp only [hB, decide_eq_true_eq, decide_eq_false_iff_not] at hb
      exfalso; simp [r1, r2] at hb
     ·intro hb
      try simp only [hB, decide_eq_true_eq, decide_eq_false_iff_not] at hb
      skip
      refine AW.keep [2, 3, 9, 10, 11, 12] [3] ?_
      simp only [go_sem, reduceIte, zE]
      refine AW.skip ?_
      exact hJ4 0 _
    ·intro hb
     try simp only [hB, decide_eq_true_eq, decide_eq_false_iff_not] at hb
     have he4 : eb = true := by simpa using hb
     refine AW.seq fun K27 hK27 => ?_
     refine AW.regionK 0 (fun _ => none) [1, 2, 3, 7, 8, 9, 10, 11, 12, 69] [3] ?_
     simp only [go_sem, reduceIte, reduceCtorEq, zA, zM, zE, zL, zD, zS, zP, zB, zI, zR, yaa, hlt]
     repeat with_reducible refine cj ?_ ?_
     all_goals try first | omega
     refine hK27 _ _ _ ?_; clear hK27
     refine AW.cond rfl (by simp only [go_sem, reduceIte, reduceCtorEq, zA, zM, zE, zL, zD, zS, zP, zB, zI, zR]) ?_ ?_
     ·intro hb
      try simp only [hB, decide_eq_true_eq, decide_eq_false_iff_not] at hb
      have hg6 : g ≠ 0 := by simpa using hb
      obtain ⟨r1, r2⟩ := c2 he4 hg6
      refine AW.seq fun K28 hK28 => ?_
      refine AW.regionK 0 (fun _ => none) [2, 3, 9, 10, 11, 12, 76] [3] ?_
      simp only [go_sem, reduceIte, reduceCtorEq, zA, zM, zE, zL, zD, zS, zP, zB, zI, zR, yaa, hlt]
      repeat with_reducible refine cj ?_ ?_
      all_goals try first | omega | (intros; (repeat' apply And.intro) <;> first | assumption | omega | decide) | (intro hgd; exact absurd hgd (by decide)) | rfl | (simp only [go_sem, reduceIte, reduceCtorEq, zA, zM, zE, zL, zD, zS, zP, zB, zI, zR, yaa, hlt]; done) | (intro _hgd; simp_all [go_sem]; done)
      refine hK28 _ _ _ ?_; clear hK28
      refine AW.cond rfl (by simp only [go_sem, reduceIte, reduceCtorEq, zA, zM, zE, zL, zD, zS, zP, zB, zI, zR]) ?_ ?_
      ·intro hb
       try simp only [hB, decide_eq_true_eq, decide_eq_false_iff_not] at hb
       exfalso; simp [r1, r2] at hb
      ·intro hb
       try simp only [hB, decide_eq_true_eq, decide_eq_false_iff_not] at hb
       skip
       refine AW.keep [2, 3, 9, 10, 11, 12] [3] ?_
       simp only [go_sem, reduceIte, zE]
       refine AW.skip ?_
       exact hJ4 0 _
     ·intro hb
      try simp only [hB, decide_eq_true_eq, decide_eq_false_iff_not] at hb
      have hg6 : g = 0 := by simpa using hb
      obtain ⟨r1, r2⟩ := c3 he4 hg6
      refine AW.seq fun K29 hK29 => ?_
      refine AW.regionK 0 (fun ii => if ii = 11 then some (.reads false (.int .i64 ra)) else none) [2, 3, 9, 10, 11, 12, 91] [3] ?_
      simp only [go_sem, reduceIte, reduceCtorEq, zA, zM, zE, zL, zD, zS, zP, zB, zI, zR, yaa, hlt]
      repeat with_reducible refine cj ?_ ?_
      all_goals try first | ((intros; (repeat' apply And.intro) <;> first | assumption | exact r2)) | (intros; (repeat' apply And.intro) <;> first | assumption | ((intros; (repeat' apply And.intro) <;> first | assumption | exact r2))) | omega | exact ent (by kernel_rfl) | (intro hgd; exact absurd hgd (by decide)) | rfl | (simp only [go_sem, reduceIte, reduceCtorEq, zA, zM, zE, zL, zD, zS, zP, zB, zI, zR, yaa, hlt]; done) | (intro _hgd; simp_all [go_sem]; done)
      refine hK29 _ _ _ ?_; clear hK29
      refine AW.cond rfl (by simp only [go_sem, reduceIte, reduceCtorEq, zA, zM, zE, zL, zD, zS, zP, zB, zI, zR]) ?_ ?_
      ·intro hb
       try simp only [hB, decide_eq_true_eq, decide_eq_false_iff_not] at hb
       exfalso; simp [r1] at hb
      ·intro hb
       try simp only [hB, decide_eq_true_eq, decide_eq_false_iff_not] at hb
       skip
       refine AW.keep [2, 3, 9, 10, 11, 12] [3] ?_
       simp only [go_sem, reduceIte, zE]
       refine AW.skip ?_
       exact hJ4 0 _
theorem ranks_g (n : Nat) (t : List (List Bool)) (hs : Sq n t) (hn : n ≤ 512) (hp : poB n t = true) (l : List Int) (hll : l.length ≤ 9223372036854775807) (k : Int) : Reads Tryd.prog 7 false [relB t, .rsl 1 (ints l), .int .i64 k] (.bool true) := by
 have hC := rcount_all n t hs hn hp
 have hIs := ris_g n t hs hn hp l hll
 have hv := yey n t hs hn
 rw [hp] at hv
 have he := yj3 n t hs hn l hll
 have ha := yj8 n t
 by_cases h1 : 5000 < cntL (belL n t) n n
 ·have hcA : cntA n t = 0 := if_pos h1
  have hcE : cntE n t = 16 := if_pos h1
  have ht := table_b n t hs hn hp h1
  rw [hcA, hcE] at hC
  have hct : Reads Tryd.prog 42 false [relB t] (.tup [.any, .int .i64 0, .int .i64 16]) := ynk (tabR t) 16 (by decide) ht
  have hU : Reads Tryd.prog 27 false [relB t, .int .i64 k] (.tup [.rsl 1 (ints []), .int .i64 16]) := yl5 (tabR t) k 16 (by decide) hct
  cases hx : extB n (belL n t) l with
  | true =>
   rw [hx] at he hIs
   have hR := ysm (tabR t) l 16 (by decide) hv he hct
   exact yig n t hs hn hp l hll k true 0 16 0 16 16 [] (by simp) hR hU hC hIs (by simp) (by simp) (by simp) (by simp) (by simp) (by simp)
  | false =>
   rw [hx] at he hIs
   have hR := yrh (tabR t) l hv he
   exact yig n t hs hn hp l hll k false 0 11 0 16 16 [] (by simp) hR hU hC hIs (by simp) (by simp) (by simp) (by simp) (by simp) (by simp)
 ·by_cases h2 : (1125899906842624 : Int) < cE (belL n t) n n (List.replicate n false)
  ·have hcA : cntA n t = 0 := by unfold cntA; rw [if_neg h1, if_pos h2]
   have hcE : cntE n t = 9 := by unfold cntE; rw [if_neg h1, if_pos h2]
   rw [hcA, hcE] at hC
   have hct := counted_g n t hs hn hp (by omega) (by rw [ha]; omega)
   have hU : Reads Tryd.prog 27 false [relB t, .int .i64 k] (.tup [.rsl 1 (ints []), .int .i64 9]) := yl5 (tabR t) k 9 (by decide) hct
   cases hx : extB n (belL n t) l with
   | true =>
    rw [hx] at he hIs
    have hR := ysm (tabR t) l 9 (by decide) hv he hct
    exact yig n t hs hn hp l hll k true 0 9 0 9 9 [] (by simp) hR hU hC hIs (by simp) (by simp) (by simp) (by simp) (by simp) (by simp)
   | false =>
    rw [hx] at he hIs
    have hR := yrh (tabR t) l hv he
    exact yig n t hs hn hp l hll k false 0 11 0 9 9 [] (by simp) hR hU hC hIs (by simp) (by simp) (by simp) (by simp) (by simp) (by simp)
  ·have hcA : cntA n t = cE (belL n t) n n (List.replicate n false) := by unfold cntA; rw [if_neg h1, if_neg h2]
   have hcE : cntE n t = 0 := by unfold cntE; rw [if_neg h1, if_neg h2]
   rw [hcA, hcE] at hC
   have haw : allW n t = (cE (belL n t) n n (List.replicate n false) : Int) := by rw [ha]; omega
   have hb : allW n t ≤ 1125899906842624 := by rw [haw]; omega
   have key : ∀ (eb : Bool) (ra re : Int), Reads Tryd.prog 26 false [relB t, .rsl 1 (ints l)] (.tup [.int .i64 ra, .int .i64 re]) → Reads Tryd.prog 17 false [relB t, .rsl 1 (ints l)] (.bool eb) →
     (eb = false → ra = 0 ∧ re = 11) → (eb = true → re = 0 ∧ Reads Tryd.prog 28 false [relB t, .rsl 1 (ints l)] (.int .i64 ra)) → Reads Tryd.prog 7 false [relB t, .rsl 1 (ints l), .int .i64 k] (.bool true) := by
    intro eb ra re hR hI c1 c3
    by_cases hk : k < 0 ∨ (cE (belL n t) n n (List.replicate n false) : Int) ≤ k
    ·have hU : Reads Tryd.prog 27 false [relB t, .int .i64 k] (.tup [.rsl 1 (ints []), .int .i64 2]) := unrank_r n t hs hn hp (by omega) hb k (by rw [haw]; exact hk)
     exact yig n t hs hn hp l hll k eb ra re _ 0 2 [] (by simp) hR hU hC hI c1 (fun _ h => absurd rfl h) (fun h _ => c3 h) (fun h => absurd rfl h) (fun _ _ => ⟨rfl, rfl⟩) (fun _ h => absurd hk h)
    ·obtain ⟨l2, h3, h4⟩ := unrank_ex (bel := belL n t) (n := n) (k := k.toNat) (by omega)
     have hkk : ((k.toNat : Nat) : Int) = k := by omega
     have hU := unrank_u n t hs hn hp (by omega) hb l2 h3
     have hU2 := runrank_g n t hs hn hp (by omega) (by omega) l2 h3
     rw [h4, hkk] at hU hU2
     exact yig n t hs hn hp l hll k eb ra re _ 0 0 l2 (by rw [(extB_iff.1 h3).len]; exact hn) hR hU hC hI c1 (fun _ h => absurd rfl h) (fun h _ => c3 h) (fun h => absurd rfl h) (fun _ h => absurd h hk) (fun _ _ => ⟨rfl, hU2⟩)
   cases hx : extB n (belL n t) l with
   | true =>
    rw [hx] at he hIs
    have hR := ysn n t hs hn hp (by omega) hb l hx
    have hR2 := rrank_g n t hs hn hp (by omega) (by omega) l hx
    exact key true _ 0 hR hIs (by simp) (fun _ => ⟨rfl, hR2⟩)
   | false =>
    rw [hx] at he hIs
    exact key false 0 11 (yrh (tabR t) l hv he) hIs (fun _ => ⟨rfl, rfl⟩) (by simp)
theorem law_ranks (rs : List USet) (hl : ykk rs) (hok : ∀ x ∈ rs, okW x.W) (l : List Int) (hll : l.length ≤ 9223372036854775807) (k : Int) : Reads Tryd.prog 7 false [relV rs, .rsl 1 (ints l), .int .i64 k] (.bool true) := by
 rcases rel_cases rs hok with ⟨t, ht, hs, hn, hp⟩ | hb
 ·have h := ranks_g _ t hs hn hp l hll k
  rw [yjv, ← ht] at h
  exact h
 ·obtain ⟨h1, h2⟩ := bad_valid rs hl hok hb
  exact ranks_b rs hl l hll k h1 h2
end Go.Proofs.X

/- Arguments that are read as data, as pure trees. -/
namespace Go.AM

inductive F2 {α β : Type} (R : α → β → Prop) : List α → List β → Prop
  | nil : F2 R [] []
  | cons {a b l r} (h : R a b) (t : F2 R l r) : F2 R (a :: l) (b :: r)

/-- The shape of a type's cells. -/
def Fit (P : Program) : Nat → TypeId → List AV → Prop
  | 0, _, _ => False
  | f + 1, t, avs => match P.underlying t with
    | some .bool => ∃ b, avs = [.bool b]
    | some (.int k) => ∃ n, avs = [.int k n] ∧ k.min ≤ n ∧ n ≤ k.max
    | some .string => ∃ s, avs = [.str s]
    | some (.slice e) => P.cellsOf e = 0 ∨ ∃ es, avs = [.rsl (P.cellsOf e) es] ∧ es.length ≤ maxLen ∧ ∀ x ∈ es, x.length = P.cellsOf e ∧ Fit P f e x
    | some (.struct fs) => ∃ parts : List (List AV), avs = parts.flatten ∧ F2 (fun (fl : Field) p => p.length = P.cellsOf fl.type ∧ Fit P f fl.type p) fs.toList parts
    | some (.array n e) => ∃ parts : List (List AV), avs = parts.flatten ∧ parts.length = n ∧ ∀ p ∈ parts, p.length = P.cellsOf e ∧ Fit P f e p
    | _ => True

abbrev immW (w : World) : Nat → Prop := immF w fun _ => False
def Match (w : World) (avs : List AV) (cs : List Value) : Prop := avs.length = cs.length ∧ ∀ i, i < avs.length → RelP (immW w) w (avs.getD i .any) (cs.getD i undef)

theorem Match.append {w : World} {a a' : List AV} {c c' : List Value} (h : Match w a c) (h' : Match w a' c') : Match w (a ++ a') (c ++ c') := by
  obtain ⟨h1, h2⟩ := h
  obtain ⟨k1, k2⟩ := h'
  refine ⟨by simp [h1, k1], fun i hi => ?_⟩
  rw [getD_append, getD_append, ← h1]
  by_cases hlt : i < a.length
  · rw [if_pos hlt, if_pos hlt]; exact h2 i hlt
  · rw [if_neg hlt, if_neg hlt]
    exact k2 _ (by simp at hi; omega)
theorem Match.one {w : World} {a : AV} {u : Value} (h : RelP (immW w) w a u) : Match w [a] [u] := ⟨rfl, fun i hi => by
  match i, hi with
  | 0, _ => exact h⟩

theorem yhz {α β : Type} {f : α → Option β} : ∀ {l : List α} {r : List β}, l.mapM f = some r → F2 (fun a b => f a = some b) l r
  | [], r, h => by
    simp only [List.mapM_nil, Option.pure_def, Option.some.injEq] at h
    subst h; exact .nil
  | a :: l, r, h => by
    rw [List.mapM_cons] at h
    cases ha : f a with
    | none => simp [ha] at h
    | some b =>
      cases hl : l.mapM f with
      | none => simp [ha, hl] at h
      | some r' =>
        simp [ha, hl] at h
        subst h
        exact .cons ha (yhz hl)

theorem yk9 {β : Type} {f : Nat → Option β} {n : Nat} {r : List β} (h : (List.range n).mapM f = some r) : r.length = n ∧ ∀ i, i < n → ∃ b, r[i]? = some b ∧ f i = some b := by
  have h2 := yhz h
  have key : ∀ {l : List Nat} {r : List β}, F2 (fun a b => f a = some b) l r → r.length = l.length ∧ ∀ (i a : Nat), l[i]? = some a → ∃ b, r[i]? = some b ∧ f a = some b := by
    intro l r h
    induction h with
    | nil => exact ⟨rfl, by simp⟩
    | cons h t ih =>
      refine ⟨by simp [ih.1], fun i a ha => ?_⟩
      cases i with
      | zero => simp only [List.getElem?_cons_zero, Option.some.injEq] at ha; subst ha; exact ⟨_, rfl, h⟩
      | succ i => simpa using ih.2 i a (by simpa using ha)
  obtain ⟨k1, k2⟩ := key h2
  refine ⟨by simpa using k1, fun i hi => k2 i i (by simp [hi])⟩

theorem ykf {w : World} {a : Addr} {n : Nat} {cs : List Value} (h : w.cells? 0 a n = some cs) : cs.length = n ∧ ∀ j, j < n → w.cell? (a.add j) = some (cs.getD j undef) := by
  simp only [World.cells?, Nat.zero_le, if_true] at h
  obtain ⟨h1, h2⟩ := yk9 h
  refine ⟨h1, fun j hj => ?_⟩
  obtain ⟨b, e1, e2⟩ := h2 j hj
  rw [e2, List.getD_eq_getElem?_getD, e1]; rfl

theorem cell?_spot {w : World} {a : Addr} {v : Value} (h : w.cell? a = some v) : a.spot = none ∧ a.block < w.heap.size := by
  unfold World.cell? at h
  split at h
  · rename_i c _ _ hh
    split at h
    · cases h
    · rename_i hs
      exact ⟨by simpa using hs, ycg hh⟩
  · cases h

theorem yh0 {P : Program} (cs : List Value) : ∀ (fs : List Field) (o : Nat), (∀ (j : Nat) f, fs[j]? = some f → f.offset = o + ((fs.take j).map fun f => P.cellsOf f.type).sum) →
    (fs.map fun f => (cs.drop f.offset).take (P.cellsOf f.type)).flatten = (cs.drop o).take ((fs.map fun f => P.cellsOf f.type).sum)
  | [], o, _ => by simp
  | f :: fs, o, h => by
    have h0 := h 0 f rfl
    simp at h0
    have ih := yh0 (P := P) cs fs (o + P.cellsOf f.type) fun j g hj => by
      have := h (j + 1) g (by simpa using hj)
      rw [this]
      simp [Nat.add_assoc]
    simp only [List.map_cons, List.flatten_cons, List.sum_cons, ih, h0]
    rw [List.take_add, List.drop_drop]

theorem yiw (cs : List Value) (m : Nat) : ∀ n, ((List.range n).map fun i => (cs.drop (i * m)).take m).flatten = cs.take (n * m)
  | 0 => by simp
  | n + 1 => by
    rw [List.range_succ, List.map_append, List.flatten_append, yiw cs m n, Nat.succ_mul, List.take_add]
    simp

theorem yez {α : Type} {w : World} {g : α → List Value} {p : α → List AV → Prop} : ∀ {l : List α} {parts : List (List AV)}, F2 (fun a x => p a x ∧ Match w x (g a)) l parts → Match w parts.flatten (l.map g).flatten
  | _, _, .nil => ⟨rfl, by simp⟩
  | _, _, .cons h t => by
    simp only [List.flatten_cons, List.map_cons]
    exact h.2.append (yez t)

theorem yg1 {α β : Type} {R S : α → β → Prop} (h : ∀ a b, R a b → S a b) : ∀ {l : List α} {r : List β}, F2 R l r → F2 S l r
  | _, _, .nil => .nil
  | _, _, .cons h1 t => .cons (h _ _ h1) (yg1 h t)
theorem ykg {α β : Type} {R : α → β → Prop} : ∀ {l : List α} {r : List β}, F2 R l r → l.length = r.length
  | _, _, .nil => rfl
  | _, _, .cons _ t => by simp [ykg t]
theorem yh1 {α β : Type} {R : α → β → Prop} {Q : β → Prop} (h : ∀ a b, R a b → Q b) : ∀ {l : List α} {r : List β}, F2 R l r → ∀ b ∈ r, Q b
  | _, _, .nil, b, hb => by cases hb
  | _, _, .cons h1 t, b, hb => by
    rcases List.mem_cons.1 hb with rfl | hb
    · exact h _ _ h1
    · exact yh1 h t b hb

theorem fit_of_trod {H : Type} {enc : TypeId × Value → H} {P : Program} {w : World} (hl : laidOutB P = true) : ∀ (n : Nat) (t : TypeId) (cs : List Value) (x : DataW H × List MemPlace), t < P.types.size →
    DataW.trod enc P w 0 (fun _ => true) true n t cs = some x → ∃ avs, Fit P n t avs ∧ Match w avs cs := by
  intro n
  induction n with
  | zero => intro t cs x _ h; simp [DataW.trod] at h
  | succ n ih =>
    intro t cs x ht h
    have hany : (match P.underlying t with | some .bool | some (.int _) | some .string | some (.slice _) | some (.struct _) | some (.array _ _) => False | _ => True) → ∃ avs, Fit P (n + 1) t avs ∧ Match w avs cs := fun hh => by
      refine ⟨List.replicate cs.length .any, ?_, by simp, fun i hi => ?_⟩
      · unfold Fit
        split <;> simp_all
      · have : (List.replicate cs.length AV.any).getD i .any = .any := by
          simp only [List.getD_eq_getElem?_getD]
          cases h : (List.replicate cs.length AV.any)[i]? with
          | none => rfl
          | some y => simp [List.getElem?_replicate] at h; simp [h.2]
        rw [this]; exact .any _
    by_cases hh : (match P.underlying t with | some .bool | some (.int _) | some .string | some (.slice _) | some (.struct _) | some (.array _ _) => False | _ => True)
    · exact hany hh
    cases hu : P.underlying t with
    | none => exact absurd (by rw [hu]; trivial) hh
    | some d =>
      rw [hu] at hh
      cases d <;> first | exact absurd trivial hh | skip
      case bool =>
        unfold DataW.trod at h
        rw [hu] at h
        rcases cs with _ | ⟨c, _ | ⟨c2, rest⟩⟩ <;> (try cases c) <;> simp at h
        exact ⟨[.bool _], by unfold Fit; rw [hu]; exact ⟨_, rfl⟩, .one (.bool _)⟩
      case int k =>
        unfold DataW.trod at h
        rw [hu] at h
        rcases cs with _ | ⟨c, _ | ⟨c2, rest⟩⟩ <;> (try cases c) <;> simp at h
        rename_i k' m
        obtain ⟨⟨rfl, h1⟩, _⟩ := h
        exact ⟨[.int k' m], by unfold Fit; rw [hu]; exact ⟨_, rfl, by simpa [Lit.wf] using h1⟩, .one (.int _ _)⟩
      case string =>
        unfold DataW.trod at h
        rw [hu] at h
        rcases cs with _ | ⟨c, _ | ⟨c2, rest⟩⟩ <;> (try cases c) <;> simp at h
        exact ⟨[.str _], by unfold Fit; rw [hu]; exact ⟨_, rfl⟩, .one (.str _)⟩
      case slice e =>
        have he := kid_slice hl ht hu
        unfold DataW.trod at h
        rw [hu] at h
        have hbad : ∀ c c2 rest, cs ≠ c :: c2 :: rest := fun c c2 rest e => by subst e; cases c <;> simp at h
        rcases cs with _ | ⟨c, _ | ⟨c2, rest⟩⟩
        · simp at h
        rotate_left
        · exact absurd rfl (hbad _ _ _)
        cases c <;> first | (simp at h; done) | skip
        rename_i a len cap
        cases a with
        | none =>
          rcases len with _ | len <;> rcases cap with _ | cap <;> first | (simp at h; done) | skip
          exact ⟨[.rsl (P.cellsOf e) []], by unfold Fit; rw [hu]; exact .inr ⟨[], rfl, by simp, by simp⟩, .one (.rnil _ _ _)⟩
        | some a =>
          dsimp only at h
          split at h
          · rename_i hb
            cases hm : (List.range len).mapM (fun i => (w.cells? 0 (a.add (i * P.cellsOf e)) (P.cellsOf e)).bind (DataW.trod enc P w 0 (fun _ => true) true n e)) with
            | none => rw [hm] at h; simp at h
            | some elems =>
              obtain ⟨k1, k2⟩ := yk9 hm
              have k3 : ∀ i, i < len → ∃ avs cs', w.cells? 0 (a.add (i * P.cellsOf e)) (P.cellsOf e) = some cs' ∧ Fit P n e avs ∧ Match w avs cs' := fun i hi => by
                obtain ⟨b, _, e2⟩ := k2 i hi
                cases hc : w.cells? 0 (a.add (i * P.cellsOf e)) (P.cellsOf e) with
                | none => rw [hc] at e2; simp at e2
                | some cs' =>
                  rw [hc] at e2
                  obtain ⟨avs, h1, h2⟩ := ih e cs' b he e2
                  exact ⟨avs, cs', rfl, h1, h2⟩
              classical
              let F : Nat → List AV := fun i => if hi : i < len then Classical.choose (k3 i hi) else []
              let es := (List.range len).map F
              have hlen : es.length = len := by simp [es]
              have hget : ∀ i, i < len → es.getD i [] = F i := fun i hi => by simp [es, List.getD_eq_getElem?_getD, hi]
              have hF : ∀ i, i < len → ∃ cs', w.cells? 0 (a.add (i * P.cellsOf e)) (P.cellsOf e) = some cs' ∧ Fit P n e (F i) ∧ Match w (F i) cs' := fun i hi => by
                have := Classical.choose_spec (k3 i hi)
                simp only [F, dif_pos hi]
                exact this
              have hes : ∀ x ∈ es, x.length = P.cellsOf e ∧ Fit P n e x := fun x hx => by
                simp only [es, List.mem_map, List.mem_range] at hx
                obtain ⟨i, hi, rfl⟩ := hx
                obtain ⟨cs', h1, h2, h3⟩ := hF i hi
                exact ⟨h3.1.trans (ykf h1).1, h2⟩
              rcases Nat.eq_zero_or_pos (P.cellsOf e) with hz | hz
              · exact ⟨[.any], by unfold Fit; rw [hu]; exact .inl hz, .one (.any _)⟩
              refine ⟨[.rsl (P.cellsOf e) es], by unfold Fit; rw [hu]; exact .inr ⟨es, rfl, by rw [hlen]; omega, hes⟩, .one ?_⟩
              rcases Nat.eq_zero_or_pos len with h0 | h0
              · have : es = [] := List.length_eq_zero_iff.1 (by omega)
                rw [this, h0]; exact .rnil _ _ _
              · have hcell : ∀ i j, i < len → j < P.cellsOf e → ∃ v, w.cell? ((a.add (i * P.cellsOf e)).add j) = some v ∧ RelP (immW w) w ((es.getD i []).getD j .any) v := fun i j hi hj => by
                  obtain ⟨cs', h1, h2, h3⟩ := hF i hi
                  obtain ⟨g1, g2⟩ := ykf h1
                  refine ⟨_, g2 j hj, ?_⟩
                  rw [hget i hi]
                  exact h3.2 j (by rw [h3.1, g1]; exact hj)
                obtain ⟨v0, g1, _⟩ := hcell 0 0 h0 hz
                simp only [Nat.zero_mul, Addr.add, if_true] at g1
                obtain ⟨hs, hblk⟩ := cell?_spot g1
                obtain ⟨b, off, sp⟩ := a
                simp only at hs
                subst hs
                have hadd : ∀ i j, ((⟨b, off, none⟩ : Addr).add (i * P.cellsOf e)).add j = ⟨b, off + i * P.cellsOf e + j, none⟩ := fun i j => by
                  simp only [Addr.add]
                  split <;> split <;> simp_all
                rw [← hlen]
                refine .rsl _ es b off cap (fun i j => (w.cell? ⟨b, off + i * P.cellsOf e + j, none⟩).getD undef) (by omega) ⟨hblk, fun h => h⟩ (fun x hx => (hes x hx).1) (fun i j hi hj => ?_) (fun i j hi hj => ?_)
                · obtain ⟨v, e1, _⟩ := hcell i j (by omega) hj
                  rw [hadd] at e1
                  simp [e1]
                · obtain ⟨v, e1, e2⟩ := hcell i j (by omega) hj
                  rw [hadd] at e1
                  simpa [e1] using e2
          · cases h
      case struct fs =>
        obtain ⟨hk1, hk2, hk3⟩ := kid_struct hl ht hu
        unfold DataW.trod at h
        rw [hu] at h
        dsimp only at h
        split at h
        · rename_i hlen
          cases hm : (fs.toList.mapM fun f => DataW.trod enc P w 0 (fun _ => true) true n f.type ((cs.drop f.offset).take (P.cellsOf f.type))) with
          | none => rw [hm] at h; simp at h
          | some xs =>
            have h2 := yhz hm
            have h3 : ∃ parts : List (List AV), F2 (fun (fl : Field) p => (p.length = P.cellsOf fl.type ∧ Fit P n fl.type p) ∧ Match w p ((cs.drop fl.offset).take (P.cellsOf fl.type))) fs.toList parts := by
              have hall : ∀ f ∈ fs.toList, f.type < P.types.size ∧ f.offset + P.cellsOf f.type ≤ cs.length := fun f hf => by
                refine ⟨hk1 f hf, ?_⟩
                obtain ⟨j, hj, rfl⟩ := List.mem_iff_getElem.1 hf
                have h5 := hk3 j fs.toList[j] (List.getElem?_eq_getElem hj)
                rw [h5, hlen, hk2]
                have h6 : (fs.toList.map fun f => P.cellsOf f.type).sum = ((fs.toList.take j).map fun f => P.cellsOf f.type).sum + ((fs.toList.drop j).map fun f => P.cellsOf f.type).sum := by
                  rw [← List.sum_append, ← List.map_append, List.take_append_drop]
                rw [h6, List.drop_eq_getElem_cons hj]
                simp
              clear hm h hk1 hk2 hk3
              generalize fs.toList = l at h2 hall
              induction h2 with
              | nil => exact ⟨[], .nil⟩
              | cons h1 t ih2 =>
                rename_i f y l' r'
                obtain ⟨parts, hp⟩ := ih2 fun f hf => hall f (List.mem_cons_of_mem _ hf)
                obtain ⟨g1, g2⟩ := hall f (List.mem_cons_self ..)
                obtain ⟨avs, k1, k2⟩ := ih _ _ _ g1 h1
                exact ⟨avs :: parts, .cons ⟨⟨by rw [k2.1]; simp; omega, k1⟩, k2⟩ hp⟩
            obtain ⟨parts, hp⟩ := h3
            refine ⟨parts.flatten, by unfold Fit; rw [hu]; exact ⟨parts, rfl, yg1 (fun _ _ h => h.1) hp⟩, ?_⟩
            have h4 := yez hp
            rw [yh0 cs fs.toList 0 (fun j f hj => by simpa using hk3 j f hj)] at h4
            rw [← hk2, ← hlen] at h4
            simpa using h4
        · cases h
      case array m e =>
        obtain ⟨he, hsz⟩ := kid_array hl ht hu
        unfold DataW.trod at h
        rw [hu] at h
        dsimp only at h
        split at h
        · rename_i hlen
          cases hm : ((List.range m).mapM fun i => DataW.trod enc P w 0 (fun _ => true) true n e ((cs.drop (i * P.cellsOf e)).take (P.cellsOf e))) with
          | none => rw [hm] at h; simp at h
          | some xs =>
            have h2 := yhz hm
            have h3 : ∃ parts : List (List AV), F2 (fun (i : Nat) p => (p.length = P.cellsOf e ∧ Fit P n e p) ∧ Match w p ((cs.drop (i * P.cellsOf e)).take (P.cellsOf e))) (List.range m) parts := by
              have hall : ∀ i ∈ List.range m, (i + 1) * P.cellsOf e ≤ cs.length := fun i hi => by
                rw [hlen, hsz]
                exact Nat.mul_le_mul_right _ (by have := List.mem_range.1 hi; omega)
              clear hm h hsz
              generalize List.range m = l at h2 hall
              induction h2 with
              | nil => exact ⟨[], .nil⟩
              | cons h1 t ih2 =>
                rename_i i y l' r'
                obtain ⟨parts, hp⟩ := ih2 fun f hf => hall f (List.mem_cons_of_mem _ hf)
                have g2 := hall i (List.mem_cons_self ..)
                obtain ⟨avs, k1, k2⟩ := ih _ _ _ he h1
                rw [Nat.succ_mul] at g2
                exact ⟨avs :: parts, .cons ⟨⟨by rw [k2.1]; simp; omega, k1⟩, k2⟩ hp⟩
            obtain ⟨parts, hp⟩ := h3
            refine ⟨parts.flatten, by unfold Fit; rw [hu]; exact ⟨parts, rfl, by have := ykg hp; simpa using this.symm, yh1 (fun _ _ h => h.1) hp⟩, ?_⟩
            have h4 := yez (g := fun i => (cs.drop (i * P.cellsOf e)).take (P.cellsOf e)) hp
            rw [yiw, ← hsz, ← hlen] at h4
            simpa using h4
        · cases h

end Go.AM

/- A law's contract out of a contract over pure trees. -/
namespace Go.AM
open Go.RowKit Go.WideShapes Go.ChangeShapes

def aggT (P : Program) (t : TypeId) : Bool :=
  match P.underlying t with
  | some (.struct _) | some (.array _ _) => true
  | _ => false
def supT (P : Program) (t : TypeId) : Bool :=
  match P.underlying t with
  | some .bool | some (.int _) | some .string | some (.slice _) | some (.struct _) | some (.array _ _) => true
  | _ => false
def yof (P : Program) (t : TypeId) (avs : List AV) : AV := if aggT P t then .agg avs else avs.getD 0 .any
def ygk (P : Program) : List TypeId → List (List AV) → List AV
  | t :: ts, a :: avs => yof P t a :: ygk P ts avs
  | _, _ => []

theorem match_arg {P : Program} {w : World} {t : TypeId} {v : Value} {avs : List AV} {base : Nat} (hs : supT P t = true) (hok : Value.okWide P w .any base t v) (h : Match w avs v.cells.toList) : RelP (immW w) w (yof P t avs) v := by
  have hone : (∀ cs, v ≠ .agg cs) → aggT P t = false → RelP (immW w) w (yof P t avs) v := fun hv ha => by
    have hc : v.cells.toList = [v] := by
      cases v <;> first | rfl | exact absurd rfl (hv _)
    rw [hc] at h
    unfold yof
    rw [ha]
    exact h.2 0 (by rw [h.1]; simp)
  have hagg : (∃ cs, v = .agg cs) → aggT P t = true → RelP (immW w) w (yof P t avs) v := fun ⟨cs, e⟩ ha => by
    subst e
    unfold yof
    rw [ha]
    obtain ⟨l⟩ := cs
    exact .agg _ _ h.1 h.2
  cases hu : P.underlying t with
  | none => simp [supT, hu] at hs
  | some d =>
    cases d <;> first | (simp [supT, hu] at hs; done) | skip
    case bool => obtain ⟨b, rfl⟩ := okWide_bool hu hok; exact hone (by simp) (by simp [aggT, hu])
    case int => obtain ⟨b, rfl⟩ := okWide_int hu hok; exact hone (by simp) (by simp [aggT, hu])
    case string => obtain ⟨b, rfl⟩ := okWide_string hu hok; exact hone (by simp) (by simp [aggT, hu])
    case slice => obtain ⟨b, _, _, rfl⟩ := okWide_slice hu hok; exact hone (by simp) (by simp [aggT, hu])
    case struct => obtain ⟨cs, rfl, _⟩ := okWide_struct hu hok; exact hagg ⟨_, rfl⟩ (by simp [aggT, hu])
    case array =>
      unfold Value.okWide at hok
      rw [hu] at hok
      obtain ⟨cs, rfl, _⟩ := hok
      exact hagg ⟨_, rfl⟩ (by simp [aggT, hu])

theorem yla {H : Type} {enc : TypeId × Value → H} {P : Program} {w : World} {base : Nat} (hl : laidOutB P = true) : ∀ {ts : List TypeId} {vs : List Value} {ds : List (DataW H)} {ps : List MemPlace}, (∀ t ∈ ts, t < P.types.size ∧ supT P t = true) →
    (∀ (j : Nat) t v, ts[j]? = some t → vs[j]? = some v → Value.okWide P w .any base t v) → DataW.TrodAll enc P w 0 (fun _ => true) true ts vs ds ps →
    ∃ ass, F2 (fun t avs => ∃ n, Fit P n t avs) ts ass ∧ (ygk P ts ass).length = vs.length ∧ ∀ i, i < vs.length → RelP (immW w) w ((ygk P ts ass).getD i .any) (vs.getD i undef)
  | [], vs, ds, ps, _, _, h => by
    obtain ⟨rfl, _, _⟩ := trodAll_nil h
    exact ⟨[], .nil, rfl, by simp⟩
  | t :: ts, vs, ds, ps, hts, hv, h => by
    obtain ⟨v, vs', d, ds', p, q, rfl, rfl, rfl, ⟨n, h1⟩, h2⟩ := trodAll_cons h
    obtain ⟨avs, k1, k2⟩ := fit_of_trod hl n t _ _ (hts t (List.mem_cons_self ..)).1 h1
    obtain ⟨ass, j1, j2, j3⟩ := yla hl (fun t ht => hts t (List.mem_cons_of_mem _ ht)) (fun j t v e1 e2 => hv (j + 1) t v (by simpa using e1) (by simpa using e2)) h2
    refine ⟨avs :: ass, .cons ⟨n, k1⟩ j1, by simp [ygk, j2], fun i hi => ?_⟩
    cases i with
    | zero => simpa [ygk] using match_arg (hts t (List.mem_cons_self ..)).2 (hv 0 t v rfl rfl) k2
    | succ i => simpa [ygk] using j3 i (by simpa using hi)

theorem Ext.below {w w' : World} (h : Ext (fun _ => False) w w') : Below w.heap.size w w' := ⟨h.os, h.tape, h.output, h.size, fun k hk => h.block k hk fun e => e⟩

theorem yh2 {H : Type} {enc : TypeId × Value → H} {P : Program} {W W' : World} (hl : laidOutB P = true) (hb : Below W.heap.size W W') {sp : Nat → Bool} : ∀ {ts : List TypeId} {vs : List Value} {ds : List (DataW H)} {ps : List MemPlace},
    (∀ t ∈ ts, t < P.types.size ∧ P.readableRec t = true) → DataW.TrodAll enc P W 0 (fun _ => true) true ts vs ds ps → (∀ p ∈ ps, p.block < W.heap.size ∧ sp p.block = true) → DataW.TrodAll enc P W' 0 sp true ts vs ds ps
  | [], vs, ds, ps, _, h, _ => by
    obtain ⟨rfl, rfl, rfl⟩ := trodAll_nil h
    rfl
  | t :: ts, vs, ds, ps, hts, h, hp => by
    obtain ⟨v, vs', d, ds', p, q, rfl, rfl, rfl, h1, h2⟩ := trodAll_cons h
    obtain ⟨g1, g2⟩ := hts t (List.mem_cons_self ..)
    exact ⟨p, q, WideElems.Trod_stays hl g2 g1 h1 (fun x hx => hb.same (hp x (List.mem_append_left _ hx)).1) (fun x hx => (hp x (List.mem_append_left _ hx)).2),
      yh2 hl hb (fun t ht => hts t (List.mem_cons_of_mem _ ht)) h2 (fun x hx => hp x (List.mem_append_right _ hx)), rfl⟩

theorem ykh {H : Type} {enc : TypeId × Value → H} {P : Program} {w : World} {b : Nat} {sp : Nat → Bool} {hd : Bool} : ∀ {ts : List TypeId} {vs : List Value} {ds : List (DataW H)} {ps : List MemPlace}, DataW.TrodAll enc P w b sp hd ts vs ds ps → vs.length = ts.length ∧ ds.length = ts.length
  | [], vs, ds, ps, h => by
    obtain ⟨rfl, rfl, rfl⟩ := trodAll_nil h
    exact ⟨rfl, rfl⟩
  | t :: ts, vs, ds, ps, h => by
    obtain ⟨v, vs', d, ds', p, q, rfl, rfl, rfl, _, h2⟩ := trodAll_cons h
    have := ykh h2
    exact ⟨by simp [this.1], by simp [this.2]⟩

/-- What the form asks of a law's call, out of a contract over pure trees. -/
theorem law_contract {H : Type} {enc : TypeId × Value → H} {P : Program} {fn : Func} {f : FuncId} {s : ChangeSpec} (hl : laidOutB P = true) {ts : List TypeId} {T : TypeId} (hps : fn.params.toList = ts) (hrs : fn.resultTypes = #[T]) (hT : P.underlying T = some .bool)
    (hts : ts.all (fun t => decide (t < P.types.size) && supT P t && P.readableRec t) = true) (hvars : s.vars = []) (hs : ∀ ds : List (DataW H), ds.length = ts.length → s.fn H ds = { results := [.lit (.bool true)], args := ds })
    (hread : ∀ ass, F2 (fun t avs => ∃ n, Fit P n t avs) ts ass → Reads P f false (ygk P ts ass) (.bool true))
    {W : World} {base : Nat} {args : Array Value} {ds gs : List (DataW H)} {before : List MemPlace} (hval : ∀ (j : Nat) t v, fn.params[j]? = some t → args[j]? = some v → Value.okWide P W .any base t v)
    (hW : DataW.Whole enc P fn.params.toList s.vars false W args.toList ds gs before) (hgl : GL (immF W fun _ => False) W) :
    Calls P f args W fun e W' => ∃ v, e = .returned v ∧ s.post enc P fn false true false false W args v W' := by
  have hts' : ∀ t ∈ ts, t < P.types.size ∧ supT P t = true ∧ P.readableRec t = true := fun t ht => by
    have := List.all_eq_true.1 hts t ht
    simpa [and_assoc] using this
  have hW' := hW
  obtain ⟨p, q, hA, hV, rfl, hfz, hnd⟩ := hW
  rw [hvars] at hV
  obtain ⟨rfl, rfl⟩ := trodVars_none hV
  rw [hps] at hA
  obtain ⟨hl1, hl2⟩ := ykh hA
  obtain ⟨ass, j1, j2, j3⟩ := yla hl (fun t ht => ⟨(hts' t ht).1, (hts' t ht).2.1⟩) (fun j t v e1 e2 => hval j t v (by rw [← hps] at e1; simpa using e1) (by simpa using e2)) hA
  have hc := hread ass j1 W (fun _ => False) args.toList (fun _ h => h.elim) hgl j2.symm (fun i hi => j3 i (by omega))
  rw [show args.toList.toArray = args by simp] at hc
  refine hc.mono fun e W' ⟨u, h1, h2, h3⟩ => ⟨u, h1, ?_⟩
  have hu : u = .bool true := by cases h3; rfl
  subst hu
  have hb := h2.below
  have hlt : ∀ x ∈ p, x.block < W.heap.size := fun x hx => hW'.lt x (by simpa using hx)
  have hsf := hs ds hl2
  have hres : ∀ (b : Nat) (sp : Nat → Bool) (hd : Bool), DataW.TrodAll enc P W' b sp hd fn.resultTypes.toList ((Value.bool true).resultList fn.resultTypes.size) (s.fn H (ds ++ [])).results [] := fun b sp hd => by
    rw [hrs, List.append_nil, hsf]
    exact trodAll_mk1 (shut_bool hT true)
  have hargs : ∀ sp : Nat → Bool, (∀ x ∈ p, sp x.block = true) → DataW.TrodAll enc P W' 0 sp true fn.params.toList args.toList (s.fn H (ds ++ [])).args p := fun sp hsp => by
    rw [List.append_nil, hsf, hps]
    exact yh2 hl hb (fun t ht => ⟨(hts' t ht).1, (hts' t ht).2.2⟩) hA fun x hx => ⟨hlt x hx, hsp x hx⟩
  have hvs : ∀ sp : Nat → Bool, DataW.TrodVars enc P W' sp s.vars (s.fn H (ds ++ [])).vars [] := fun sp => by
    rw [List.append_nil, hsf, hvars]; rfl
  refine ⟨ds, [], p ++ [], [], p, [], hW', hres _ _ _, hargs _ (fun x hx => by simpa using hlt x hx), hvs _, World.keptBut_mono (fun x hx => ⟨hx, ?_⟩) (hb.frame (· ∈ p ++ [])), fun _ => ?_⟩
  · simpa using hx
  · refine ⟨ok_one hrs rfl (okWide_bool_mk hT _), _, _, ([] ++ p) ++ [], ⟨[] ++ p, [], trodAll_append (hargs _ (fun _ _ => rfl)) (hres _ _ _), hvs _, rfl, ?_, ?_⟩, ?_⟩
    · intro b off hp
      have hin : MemPlace.cell b off ∈ p := by simpa using hp
      rw [hb.frozen (hlt _ hin)]
      exact hfz b off (by simpa using hin)
    · intro ha; cases ha
    · intro x hx _
      simpa using hx

end Go.AM

/- The shapes of arguments. -/
namespace Go.AM
theorem yl9 {P : Program} {t : TypeId} {k : IntKind} (hu : P.underlying t = some (.int k)) {f : Nat} {x : List AV} (h : Fit P f t x) : ∃ n, x = [.int k n] ∧ k.min ≤ n ∧ n ≤ k.max := by
  cases f with
  | zero => exact h.elim
  | succ f => unfold Fit at h; rw [hu] at h; exact h
theorem yki {P : Program} {t e : TypeId} {m : Nat} (hu : P.underlying t = some (.slice e)) (hm : P.cellsOf e = m) (h0 : m ≠ 0) {f : Nat} {x : List AV} (h : Fit P f t x) : ∃ es f', x = [.rsl m es] ∧ es.length ≤ maxLen ∧ ∀ y ∈ es, Fit P f' e y := by
  cases f with
  | zero => exact h.elim
  | succ f =>
    unfold Fit at h; rw [hu] at h
    rcases h with h | ⟨es, h1, h2, h3⟩
    · exact absurd (hm ▸ h) h0
    · rw [hm] at h1; exact ⟨es, f, h1, h2, fun y hy => (h3 y hy).2⟩
theorem ylb {P : Program} {t : TypeId} {fs : Array Field} (hu : P.underlying t = some (.struct fs)) {f : Nat} {x : List AV} (h : Fit P f t x) : ∃ f' parts, x = List.flatten parts ∧ F2 (fun (fl : Field) p => Fit P f' fl.type p) fs.toList parts := by
  cases f with
  | zero => exact h.elim
  | succ f =>
    unfold Fit at h; rw [hu] at h
    obtain ⟨parts, h1, h2⟩ := h
    exact ⟨f, parts, h1, yg1 (fun _ _ h => h.2) h2⟩
theorem F2.two {α β : Type} {R : α → β → Prop} {a b : α} {l : List β} (h : F2 R [a, b] l) : ∃ x y, l = [x, y] ∧ R a x ∧ R b y := by
  cases h with | cons h1 t => cases t with | cons h2 t => cases t with | nil => exact ⟨_, _, rfl, h1, h2⟩
theorem F2.three {α β : Type} {R : α → β → Prop} {a b c : α} {l : List β} (h : F2 R [a, b, c] l) : ∃ x y z, l = [x, y, z] ∧ R a x ∧ R b y ∧ R c z := by
  cases h with | cons h1 t => cases t with | cons h2 t => cases t with | cons h3 t => cases t with | nil => exact ⟨_, _, _, rfl, h1, h2, h3⟩
theorem ye0 {α β : Type} {f : α → β} {p : α → Prop} : ∀ {l : List β}, (∀ x ∈ l, ∃ a, x = f a ∧ p a) → ∃ m : List α, l = m.map f ∧ ∀ a ∈ m, p a
  | [], _ => ⟨[], rfl, fun _ h => by cases h⟩
  | x :: l, h => by
    obtain ⟨a, rfl, ha⟩ := h x (List.mem_cons_self ..)
    obtain ⟨m, rfl, hm⟩ := ye0 fun y hy => h y (List.mem_cons_of_mem _ hy)
    exact ⟨a :: m, rfl, fun b hb => by rcases List.mem_cons.1 hb with rfl | hb; exact ha; exact hm b hb⟩
theorem okW_of {W : List Int} (h : ∀ w ∈ W, 0 ≤ w ∧ w ≤ 18446744073709551615) : okW W := fun i => by
  by_cases hi : i < W.length
  · have := h _ (ylo hi 0); omega
  · rw [List.getD_eq_getElem?_getD, List.getElem?_eq_none (by omega)]; simp
end Go.AM

/- A laid table, as the machine's package variable. -/
namespace Go.AM
theorem rptr_of_laid {P : Program} {n : String} {g : Nat} {t e : TypeId} {k : IntKind} {L : List Int} {W : World} (hg : P.globalNamed n = some g) (ht : (P.globals[g]?).map (·.type) = some t) (hu : P.underlying t = some (.array L.length e))
    (hc : P.cellsOf e = 1) (hc2 : P.cellsOf t = L.length) (hu2 : P.underlying e = some (.int k)) (hL : L ≠ []) (h : laidMet P [(n, .agg (L.map fun i => .lit (.int k i)))] W) : RelP (immF W fun _ => False) W (.rptr (L.map (AV.int k))) (.pointer (some ⟨g, 0, none⟩)) := by
  obtain ⟨ps, ⟨g0, t0, cs0, f0, p0, q0, hg0, ht0, hv0, hd0, _, _⟩, _, _⟩ := h
  obtain rfl := Option.some.inj (hg.symm.trans hg0)
  obtain rfl := Option.some.inj (ht.symm.trans ht0)
  obtain ⟨xs, m, rfl, hx, hlen, hn, hel⟩ := DataW.trod_array hu hd0
  have hcell : ∀ j, j < L.length → W.cell? ⟨g, j, none⟩ = some (.int k (L.getD j 0)) := fun j hj => by
    have h0 := hel j hj
    rw [hc, Nat.mul_one] at h0
    have hjx : j < xs.length := by omega
    rw [List.getElem?_eq_getElem hjx] at h0
    obtain ⟨z, e1, e2, _⟩ := DataW.trod_int hu2 h0
    have hxs : xs.map (·.1) = L.map fun i => .lit (.int k i) := by
      simp only [Prod.mk.injEq, DataW.agg.injEq] at hx
      exact hx.1.symm
    have hzj : (xs.map (·.1))[j]? = (L.map fun i => (.lit (.int k i) : DataW Unit))[j]? := by rw [hxs]
    rw [List.getElem?_map, List.getElem?_map, List.getElem?_eq_getElem hjx, List.getElem?_eq_getElem hj, e2] at hzj
    simp only [Option.map_some, Option.some.injEq, DataW.lit.injEq, Lit.int.injEq] at hzj
    have hz : z = L.getD j 0 := by rw [hzj.2]; simp [List.getD_eq_getElem?_getD, hj]
    have hcs : cs0[j]? = some (.int k z) := by
      have hl : cs0.toList.length = L.length := by rw [hlen, hc2]
      have hd : cs0.toList.drop j = cs0.toList[j]'(by omega) :: cs0.toList.drop (j + 1) := List.drop_eq_getElem_cons (by omega)
      rw [hd] at e1
      simp only [List.take_succ_cons, List.take_zero, List.cons.injEq, and_true] at e1
      rw [← Array.getElem?_toList, List.getElem?_eq_getElem (by omega), e1]
    rw [World.var?_cell hg hv0 j, hcs, hz]
  have hlt : g < W.heap.size := by
    cases L with
    | nil => exact absurd rfl hL
    | cons a l =>
      have := hcell 0 (by simp)
      unfold World.cell? at this
      cases hh : W.heap[g]? with
      | none => simp [hh] at this
      | some o => exact ycg hh
  refine .rptr _ g 0 (fun j => .int k (L.getD j 0)) ⟨hlt, fun h => h⟩ (fun j hj => ?_) (fun j hj => ?_)
  · rw [List.length_map] at hj
    rw [Nat.zero_add]
    exact hcell j hj
  · rw [List.length_map] at hj
    have e : (L.map (AV.int k)).getD j .any = .int k (L.getD j 0) := by simp [List.getD_eq_getElem?_getD, hj]
    rw [e]
    exact .int _ _
theorem laidMet_of_H {P : Program} {n : String} {k : IntKind} {L : List Int} {W : World} (h : laidMetH P [(n, .agg (L.map fun i => .lit (.int k i)))] W) : laidMet P [(n, .agg (L.map fun i => .lit (.int k i)))] W := by
  rw [MakeChecks.laidMetH_plain _ _ _ (by rfl)] at h
  exact h
end Go.AM

/- The shapes of the extension laws' arguments. -/
namespace Go.AM
open Go.Proofs
theorem fit_words {f : Nat} {x : List AV} (h : Fit Tryd.prog f 43 x) : ∃ W : List Int, x = [.rsl 1 (words W)] ∧ W.length ≤ 9223372036854775807 ∧ okW W := by
  obtain ⟨es, f2, rfl, h5, h6⟩ := yki (m := 1) Tryd.underlying43 (by kernel_rfl) (by decide) h
  obtain ⟨ws, rfl, hw⟩ := ye0 (f := fun x : Int => [AV.int .u64 x]) (p := fun w => 0 ≤ w ∧ w ≤ 18446744073709551615) fun y hy => by
    obtain ⟨n, e, h1, h2⟩ := yl9 Tryd.underlying45 (h6 y hy)
    exact ⟨n, e, by simpa [IntKind.min, IntKind.signed] using h1, by simpa [IntKind.max, IntKind.signed, IntKind.bits] using h2⟩
  exact ⟨ws, rfl, by simpa [maxLen] using h5, okW_of hw⟩
theorem fit_set {f : Nat} {x : List AV} (h : Fit Tryd.prog f 47 x) : ∃ y : USet, x = rowV y ∧ y.W.length ≤ 9223372036854775807 ∧ okW y.W := by
  obtain ⟨f', parts, rfl, h2⟩ := ylb Tryd.underlying47 h
  obtain ⟨a, b, rfl, h3, h4⟩ := F2.two h2
  obtain ⟨i, rfl, _⟩ := yl9 Tryd.underlying3 h3
  obtain ⟨W, rfl, h5, h6⟩ := fit_words h4
  exact ⟨⟨i, W⟩, rfl, h5, h6⟩
theorem F2.one {α β : Type} {R : α → β → Prop} {a : α} {l : List β} (h : F2 R [a] l) : ∃ x, l = [x] ∧ R a x := by
  cases h with | cons h1 t => cases t with | nil => exact ⟨_, rfl, h1⟩
theorem fit_rel {f : Nat} {x : List AV} (h : Fit Tryd.prog f 24 x) : ∃ rs : List USet, x = [.rsl 2 (rs.map rowV)] ∧ (rs.length ≤ 9223372036854775807 ∧ ∀ y ∈ rs, y.W.length ≤ 9223372036854775807) ∧ ∀ y ∈ rs, okW y.W := by
  obtain ⟨f', parts, rfl, h2⟩ := ylb Tryd.underlying24 h
  obtain ⟨a, rfl, h3⟩ := F2.one h2
  obtain ⟨es, f2, rfl, h5, h6⟩ := yki (m := 2) Tryd.underlying22 (by kernel_rfl) (by decide) h3
  obtain ⟨rs, rfl, hr⟩ := ye0 (f := rowV) (p := fun y => y.W.length ≤ 9223372036854775807 ∧ okW y.W) fun y hy => fit_set (h6 y hy)
  exact ⟨rs, rfl, ⟨by simpa [maxLen] using h5, fun y hy => (hr y hy).1⟩, fun y hy => (hr y hy).2⟩
theorem fit_ints {f : Nat} {x : List AV} (h : Fit Tryd.prog f 33 x) : ∃ l : List Int, x = [.rsl 1 (ints l)] ∧ l.length ≤ 9223372036854775807 := by
  obtain ⟨es, f2, rfl, h5, h6⟩ := yki (m := 1) Tryd.underlying33 (by kernel_rfl) (by decide) h
  obtain ⟨l, rfl, _⟩ := ye0 (f := fun x : Int => [AV.int .i64 x]) (p := fun _ => True) fun y hy => by
    obtain ⟨n, e, _⟩ := yl9 Tryd.underlying3 (h6 y hy)
    exact ⟨n, e, trivial⟩
  exact ⟨l, rfl, by simpa [maxLen] using h5⟩
theorem pgl {W : World} (h : laidMetH Tryd.prog [("math/bits.deBruijn64tab", .agg (tzTab.map fun i => .lit (.int .u8 i)))] W) : GL (immF W fun _ => False) W := fun g cs e => by
  cases g with
  | zero =>
    rw [ym6] at e
    obtain rfl := Option.some.inj e
    exact rptr_of_laid (L := tzTab) (by kernel_rfl : Tryd.prog.globalNamed "math/bits.deBruijn64tab" = some 0) (by kernel_rfl : (Tryd.prog.globals[0]?).map (·.type) = some 106) (e := 5) Tryd.underlying106 (by kernel_rfl) (by kernel_rfl) Tryd.underlying5 (by decide) (laidMet_of_H h)
  | succ g => cases e
theorem pmet (os : Os) (args : Array Value) : laidMetH Tryd.prog [("math/bits.deBruijn64tab", .agg (tzTab.map fun i => .lit (.int .u8 i)))] ((World.doorLaid Tryd.prog 400 os).forCall (fun _ _ => 0) ⟨#[], args, []⟩).memory :=
  laidMetH_of_parts3 (fuel := 8) (laidMet_of_run' 8 (by kernel_rfl) (by kernel_rfl)) (by kernel_rfl) (by kernel_rfl)
end Go.AM

