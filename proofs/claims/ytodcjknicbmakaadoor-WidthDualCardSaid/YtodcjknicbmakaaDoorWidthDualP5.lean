/- Lemmas and contracts, part 5: an abstract machine over the model, and the functions that the statement reaches. -/
import Derived.Test.YtodcjknicbmakaaDoorWidthDualP4
set_option linter.unusedVariables false
set_option linter.unusedSimpArgs false
open Nat renaming reduceAdd → zA, reduceMul → zM, reduceEqDiff → zE, reduceLT → zL, reduceLeDiff → zD, reduceSub → zS, reducePow → zP, reduceBEq → zB
open Int renaming reduceToNat → zI
open List renaming reduceReplicate → zR
namespace Go.Proofs.W.M
open Go.AM Go
set_option maxRecDepth 100000
set_option maxHeartbeats 2000000
theorem repeat_u (a : Int) (n : Nat) (hn : n ≤ 100000) (g0 v0 : Nat) : Upd Tryd.prog 58 [(0, some ⟨g0, v0, 1, ints [a]⟩)] [.sl ⟨0, g0, none⟩ 0 1 none, .int .i64 n] (fun k => .sl ⟨1, k, none⟩ 0 n none) (fun k => [(1, some ⟨k, k, 1, ints (List.replicate n a)⟩)]) := by
 have hm := mul_r n (by omega)
 have hw := wrap_small (z := (n : Int)) (by omega) (by omega)
 have hw1 : IntKind.u64.wrap 1 = 1 := rfl
 have hw2 : IntKind.i64.wrap (n : Int) = n := by simp [IntKind.wrap, IntKind.signed, IntKind.bits]; omega
 have hl1 : (ints [a]).length = 1 := rfl
 have hz : List.replicate n [AV.int .i64 0] = ints (List.replicate n 0) := by simp [ints]
 refine Upd.of_body (rs := [.tmp 4]) Tryd.func58 rfl Tryd.ntmps58 rfl (by simp) ?_
 intro k0 k hk0 hk1
 generalize hQr : retQ _ _ _ = Qr
 refine AW.seq fun K1 hK1 => ?_
 refine AW.regionK 100 (fun _ => none) [0, 1] [0] ?_
 simp only [go_sem, reduceIte, reduceCtorEq, zA, zM, zE, zL, zD, zS, zP, zB, zI, zR, hw, hw1, hw2, hl1]
 repeat with_reducible refine cj ?_ ?_
 all_goals try first | omega
 refine hK1 _ _ _ ?_; clear hK1
 refine AW.seq fun K2 hK2 => ?_
 refine AW.seq fun K3 hK3 => ?_
 refine AW.regionK 100 (fun _ => none) [0, 1, 10] [0] ?_
 simp only [go_sem, reduceIte, reduceCtorEq, zA, zM, zE, zL, zD, zS, zP, zB, zI, zR, hw, hw1, hw2, hl1]
 repeat with_reducible refine cj ?_ ?_
 all_goals try first | omega
 refine hK3 _ _ _ ?_; clear hK3
 refine AW.cond rfl (by simp only [go_sem, reduceIte, reduceCtorEq, zA, zM, zE, zL, zD, zS, zP, zB, zI, zR]) ?_ ?_
 ·intro hb
  try simp only [hB, decide_eq_true_eq, decide_eq_false_iff_not] at hb
  exfalso; omega
 ·intro hb
  try simp only [hB, decide_eq_true_eq, decide_eq_false_iff_not] at hb
  refine AW.skip ?_
  refine hK2 _ _ _ ?_; clear hK2
  refine AW.seq fun K4 hK4 => ?_
  refine AW.regionK 100 (fun ii => if ii = 5 then some (.reads false (.tup [.int .u64 0, .int .u64 n])) else none) [0, 5, 6] [0] ?_
  simp only [go_sem, reduceIte, reduceCtorEq, zA, zM, zE, zL, zD, zS, zP, zB, zI, zR, hw, hw1, hw2, hl1]
  repeat with_reducible refine cj ?_ ?_
  all_goals try first | (exact hm) | omega | exact ent (by kernel_rfl)
  refine hK4 _ _ _ ?_; clear hK4
  refine AW.seq fun K5 hK5 => ?_
  refine AW.seq fun K6 hK6 => ?_
  refine AW.regionK 100 (fun _ => none) [0, 6, 26] [0] ?_
  simp only [go_sem, reduceIte, reduceCtorEq, zA, zM, zE, zL, zD, zS, zP, zB, zI, zR, hw, hw1, hw2, hl1]
  repeat with_reducible refine cj ?_ ?_
  all_goals try first | omega | (intros; (repeat' apply And.intro) <;> first | assumption | omega | decide) | (intro hgd; exact absurd hgd (by decide)) | rfl | (simp only [go_sem, reduceIte, reduceCtorEq, zA, zM, zE, zL, zD, zS, zP, zB, zI, zR, hw, hw1, hw2, hl1]; done) | (intro _hgd; simp_all [go_sem]; done)
  refine hK6 _ _ _ ?_; clear hK6
  refine AW.cond rfl (by simp only [go_sem, reduceIte, reduceCtorEq, zA, zM, zE, zL, zD, zS, zP, zB, zI, zR]) ?_ ?_
  ·intro hb
   try simp only [hB, decide_eq_true_eq, decide_eq_false_iff_not] at hb
   exfalso; rcases hb with hb | hb <;> omega
  ·intro hb
   try simp only [hB, decide_eq_true_eq, decide_eq_false_iff_not] at hb
   refine AW.skip ?_
   refine hK5 _ _ _ ?_; clear hK5
   refine AW.seq fun K7 hK7 => ?_
   refine AW.regionK 100 (fun _ => none) [0, 7] [0, 130] ?_
   simp only [go_sem, reduceIte, reduceCtorEq, zA, zM, zE, zL, zD, zS, zP, zB, zI, zR, hw, hw1, hw2, hl1]
   repeat with_reducible refine cj ?_ ?_
   all_goals try first | omega
   refine hK7 _ _ _ ?_; clear hK7
   refine AW.seq fun K8 hK8 => ?_
   refine AW.regionK 100 (fun _ => none) [7, 8] [130] ?_
   simp only [go_sem, reduceIte, reduceCtorEq, zA, zM, zE, zL, zD, zS, zP, zB, zI, zR, hw, hw1, hw2, hl1]
   repeat with_reducible refine cj ?_ ?_
   all_goals try first | omega | (simp [scP, ybi]; done) | exact ybe _ | exact ybj _ | exact ybf _
   refine hK8 _ _ _ ?_; clear hK8
   refine AW.seq fun K9 hK9 => ?_
   refine AW.block ?_
   refine AW.loopE (fun mm ee ss kk => ∃ (c g v : Nat), n - c = mm ∧ ee = [(7, .sl ⟨130, g, none⟩ 0 n none), (8, .int .i64 (c : Nat))] ∧ ss = [(130, some ⟨g, v, 1, ints (repC a n c)⟩)] ∧ (c ≤ n ∧ (c = 0 → n = 0))) ?_ ?_
   ·refine ⟨_, min 1 n, ?_, ?_, rfl, ?henv, ?hstore, ?hst⟩
    case henv =>
     repeat' (first | rfl | refine yaa ?_ ?_ | refine yad ?_ ?_ ?_ ?_ | refine yah ?_ | refine yae ?_ | refine yai ?_ | refine yaj ?_ | refine yan ?_ ?_ ?_ | refine yak ?_ ?_ ?_ | refine yal ?_ | refine yaf ?_ ?_ | refine yab ?_ ?_)
     all_goals (first | (simp; done) | omega | (simp; omega))
    case hstore =>
     repeat' (first | rfl | refine yaa ?_ ?_ | refine yad ?_ ?_ ?_ ?_ | refine yah ?_ | refine yae ?_ | refine yai ?_ | refine yaj ?_ | refine yan ?_ ?_ ?_ | refine yak ?_ ?_ ?_ | refine yal ?_ | refine yaf ?_ ?_ | refine yab ?_ ?_)
     all_goals (rw [hz]; unfold repC; by_cases h0 : n = 0; (subst h0; rfl); (rw [show min 1 n = 1 by omega]; simp [ints]))
    case hst =>
     first | trivial | omega | (simp; done) | (simp; omega)
   rintro mm ee ss kk ⟨c, g, v, rfl, rfl, rfl, hI⟩
   generalize hQl1 : ybd _ _ = Ql1
   have hrl : (repC a n c).length = n := by simp [repC]; omega
   refine AW.seq fun K10 hK10 => ?_
   refine AW.seq fun K11 hK11 => ?_
   refine AW.regionK 100 (fun _ => none) [7, 8, 37] [130] ?_
   simp only [go_sem, reduceIte, reduceCtorEq, zA, zM, zE, zL, zD, zS, zP, zB, zI, zR, hw, hw1, hw2, hl1]
   repeat with_reducible refine cj ?_ ?_
   all_goals try first | omega
   refine hK11 _ _ _ ?_; clear hK11
   refine AW.cond rfl (by simp only [go_sem, reduceIte, reduceCtorEq, zA, zM, zE, zL, zD, zS, zP, zB, zI, zR]) ?_ ?_
   ·intro hb
    try simp only [hB, decide_eq_true_eq, decide_eq_false_iff_not] at hb
    refine AW.skip ?_
    refine hK10 _ _ _ ?_; clear hK10
    refine AW.block ?_
    refine AW.regionD yd6 100 (fun _ => none) [7, 8] [130] ?_
    simp only [go_sem, reduceIte, reduceCtorEq, zA, zM, zE, zL, zD, zS, zP, zB, zI, zR, hw, hw1, hw2, hl1]
    repeat with_reducible refine cj ?_ ?_
    all_goals try first | omega | exact chk (by kernel_rfl) | (simp [scP, ybi]; done) | exact ybe _ | exact ybj _ | exact ybf _
    rw [← hQl1]
    change Exists _
    refine ⟨_, ?hm, c + min (n - c) c, ?_, ?_, rfl, ?henv, ?hstore, ?hst⟩
    case henv =>
     repeat' (first | rfl | refine yaa ?_ ?_ | refine yad ?_ ?_ ?_ ?_ | refine yah ?_ | refine yae ?_ | refine yai ?_ | refine yaj ?_ | refine yan ?_ ?_ ?_ | refine yak ?_ ?_ ?_ | refine yal ?_ | refine yaf ?_ ?_ | refine yab ?_ ?_)
     all_goals (first | (simp; done) | omega | (simp; omega))
    case hstore =>
     repeat' (first | rfl | refine yaa ?_ ?_ | refine yad ?_ ?_ ?_ ?_ | refine yah ?_ | refine yae ?_ | refine yai ?_ | refine yaj ?_ | refine yan ?_ ?_ ?_ | refine yak ?_ ?_ ?_ | refine yal ?_ | refine yaf ?_ ?_ | refine yab ?_ ?_)
     all_goals (rw [repC_step a hI.1])
    case hst =>
     first | trivial | omega | (simp; done) | (simp; omega)
    case hm => omega
   ·intro hb
    try simp only [hB, decide_eq_true_eq, decide_eq_false_iff_not] at hb
    refine AW.keep [7] [130] ?_
    try simp only [go_sem, reduceIte, reduceCtorEq, zA, zM, zE, zL, zD, zS, zP, zB, zI, zR]
    refine AW.exit ?_
    rw [← hQl1]
    refine hK9 _ _ _ ?_; clear hK9
    refine AW.seq fun K12 hK12 => ?_
    refine AW.regionK 100 (fun _ => none) [4] [130] ?_
    simp only [go_sem, reduceIte, reduceCtorEq, zA, zM, zE, zL, zD, zS, zP, zB, zI, zR, hw, hw1, hw2, hl1]
    repeat with_reducible refine cj ?_ ?_
    all_goals try first | omega
    refine hK12 _ _ _ ?_; clear hK12
    refine AW.ret ?_
    rw [← hQr]
    simp only [go_sem, reduceIte, reduceCtorEq, zA, zM, zE, zL, zD, zS, zP, zB, zI, zR, hw, hw1, hw2, hl1]
    have hc : c = n := by omega
    subst hc
    have hrc : repC a c c = List.replicate c a := by simp [repC]
    refine ⟨[(130, 1, true)], ?_⟩
    simp only [go_sem, reduceIte, zE, yb6, hrc]
theorem yst (n : Nat) (hn : n ≤ 100000) : Upd Tryd.prog 98 [] [.int .i64 n] (fun k => .sl ⟨0, k, none⟩ 0 n none) (fun k => [(0, some ⟨k, k, 1, ints (List.replicate n (-1))⟩)]) := by
 have hru := repeat_u (-1) n hn
 refine Upd.of_body (rs := [.tmp 2]) Tryd.func98 rfl Tryd.ntmps98 rfl (by simp) ?_
 intro k0 k hk0 hk1
 generalize hQr : retQ _ _ _ = Qr
 refine AW.seq fun K1 hK1 => ?_
 refine AW.regionK 100 (fun _ => none) [0] [] ?_
 simp only [go_sem, reduceIte, reduceCtorEq, zA, zM, zE, zL, zD, zS, zP, zB, zI, zR]
 repeat with_reducible refine cj ?_ ?_
 all_goals try first | omega
 refine hK1 _ _ _ ?_; clear hK1
 refine AW.seq fun K2 hK2 => ?_
 refine AW.regionK 100 (fun ii => if ii = 2 then some (.upd [103] (fun k => [(1, some ⟨k, k, 1, ints (List.replicate n (-1))⟩)]) (fun k => .sl ⟨1, k, none⟩ 0 n none)) else none) [2] [105] ?_
 simp only [go_sem, reduceIte, reduceCtorEq, zA, zM, zE, zL, zD, zS, zP, zB, zI, zR]
 repeat with_reducible refine cj ?_ ?_
 all_goals try first | (exact hru _ _) | omega | exact ent (by kernel_rfl)
 refine hK2 _ _ _ ?_; clear hK2
 refine AW.ret ?_
 rw [← hQr]
 simp only [go_sem, reduceIte, reduceCtorEq, zA, zM, zE, zL, zD, zS, zP, zB, zI, zR]
 refine ⟨[(105, 0, true)], ?_⟩
 simp only [go_sem, reduceIte, zE, yb6]
end Go.Proofs.W.M

namespace Go.Proofs.W.M
open Go.AM Go
set_option maxRecDepth 100000
set_option maxHeartbeats 2000000
def nbV (nb : List (List Int)) : List (List AV) := nb.map fun row => [.osl 1 (ints row)]
theorem nbV_len (nb : List (List Int)) : (nbV nb).length = nb.length := by simp [nbV]
def nbR (nb : List (List Int)) : List (List AV) := nb.map fun row => [.rsl 1 (ints row)]
theorem nbR_len (nb : List (List Int)) : (nbR nb).length = nb.length := by simp [nbR]
theorem nbR_get {nb : List (List Int)} {i : Nat} {row : List Int} (h : nb[i]? = some row) : (nbR nb).getD i [] = [.rsl 1 (ints row)] := getV h
theorem join_u (n m : Nat) (X : List (List AV)) (L R : List Int) (hL : L.length = n) (hR : R.length = m) (hn : n ≤ 512) (hm : m ≤ 512) (l r : Int) (hl : 0 ≤ l ∧ l < n) (hr : 0 ≤ r ∧ r < m) (g0 v0 g2 v2 g3 v3 : Nat) :
  Upd Tryd.prog 100 [(0, some ⟨g0, v0, 3, [[.rsl 1 X, .sl ⟨1, g2, none⟩ 0 n none, .sl ⟨2, g3, none⟩ 0 m none]]⟩), (1, some ⟨g2, v2, 1, ints L⟩), (2, some ⟨g3, v3, 1, ints R⟩)]
   [.ptr ⟨0, g0, none⟩ 0 0, .int .i64 l, .int .i64 r] (fun _ => .tup [])
   (fun k => [(0, some ⟨g0, k, 3, [[.rsl 1 X, .sl ⟨1, g2, none⟩ 0 n none, .sl ⟨2, g3, none⟩ 0 m none]]⟩), (1, some ⟨g2, k, 1, ints (L.set l.toNat r)⟩), (2, some ⟨g3, k, 1, ints (R.set r.toNat l)⟩)]) := by
 have hul := ints_upd L l.toNat r
 have hur := ints_upd R r.toNat l
 refine Upd.of_body (rs := []) Tryd.func100 rfl Tryd.ntmps100 rfl (by simp) ?_
 intro k0 k hk0 hk1
 generalize hQr : retQ _ _ _ = Qr
 refine AW.regionD yd6 100 (fun _ => none) [] [0, 1, 2] ?_
 simp only [go_sem, reduceIte, reduceCtorEq, zA, zM, zE, zL, zD, zS, zP, zB, zI, zR, hul, hur, yac, hL, hR]
 repeat with_reducible refine cj ?_ ?_
 all_goals try first | omega | exact chk (by kernel_rfl)
 rw [← hQr]
 simp only [go_sem, reduceIte, reduceCtorEq, zA, zM, zE, zL, zD, zS, zP, zB, zI, zR, hul, hur, yac, hL, hR]
 refine ⟨[(0, 0, false), (1, 1, false), (2, 2, false)], ?_⟩
 simp only [go_sem, reduceIte, zE, yb6]
 rfl
end Go.Proofs.W.M

namespace Go.Proofs.W.M
open Go.AM Go
set_option maxRecDepth 100000
set_option maxHeartbeats 2000000
def augS (n m : Nat) (nb : List (List Int)) (s : List Bool) (L R : List Int) (g0 v0 g1 v1 g2 v2 g3 v3 g4 v4 g5 v5 g6 v6 : Nat) : yao :=
 [(0, some ⟨g0, v0, 1, [[.ptr ⟨3, g3, none⟩ 0 0]]⟩), (1, some ⟨g1, v1, 1, [[.sl ⟨6, g6, none⟩ 0 m none]]⟩), (2, some ⟨g2, v2, 1, [[.fn 99 [.ptr ⟨0, g0, none⟩ 0 0, .ptr ⟨1, g1, none⟩ 0 0, .ptr ⟨2, g2, none⟩ 0 0]]]⟩),
  (3, some ⟨g3, v3, 3, [[.rsl 1 (nbR nb), .sl ⟨4, g4, none⟩ 0 n none, .sl ⟨5, g5, none⟩ 0 m none]]⟩), (4, some ⟨g4, v4, 1, ints L⟩), (5, some ⟨g5, v5, 1, ints R⟩), (6, some ⟨g6, v6, 1, ybc s⟩)]
theorem try_u {n m : Nat} (hn : n ≤ 512) (hm : m ≤ 512) {nb : List (List Int)} (hrl : ∀ row ∈ nb, row.length ≤ 100000) : ∀ (fu : Nat) (l : Int) (s : List Bool) (L R : List Int) (b' : Bool) (s' : List Bool) (L' R' : List Int), uns s < fu → 0 ≤ l → l < (n : Int) → MOk n m nb s L R →
  mtry nb fu l s L R = (b', s', L', R') → ∀ (g0 v0 g1 v1 g2 v2 g3 v3 g4 v4 g5 v5 g6 v6 : Nat),
  Upd Tryd.prog 99 (augS n m nb s L R g0 v0 g1 v1 g2 v2 g3 v3 g4 v4 g5 v5 g6 v6) [.int .i64 l, .ptr ⟨0, g0, none⟩ 0 0, .ptr ⟨1, g1, none⟩ 0 0, .ptr ⟨2, g2, none⟩ 0 0]
   (fun _ => .bool b') (fun kk => augS n m nb s' L' R' g0 kk g1 kk g2 kk g3 kk g4 kk g5 kk g6 kk) := by
 intro fu
 induction fu with
 | zero => intro l s L R b' s' L' R' hu; omega
 | succ fu ih =>
 intro l s0 L0 R0 b' s' L' R' hu hl0 hl1 hok0 hres g0 v0 g1 v1 g2 v2 g3 v3 g4 v4 g5 v5 g6 v6
 unfold augS at *
 obtain ⟨row, hrow⟩ := getI (l := nb) (j := l.toNat) (by rw [hok0.hnb.1]; omega)
 have hgn := nbR_get hrow
 have hnl := nbR_len nb
 have hnn := hok0.hnb.1
 have hrm := hok0.hnb.2 row (List.mem_of_getElem? hrow)
 have hrw := hrl row (List.mem_of_getElem? hrow)
 have hrd : nb.getD l.toNat [] = row := by rw [List.getD_eq_getElem?_getD, hrow]; rfl
 unfold mtry at hres
 rw [hrd] at hres
 refine Upd.of_body (rs := [.tmp 5]) Tryd.func99 rfl Tryd.ntmps99 rfl (by simp) ?_
 intro k0 k hk0 hk1
 generalize hQr : retQ _ _ _ = Qr
 refine AW.seq fun K1 hK1 => ?_
 refine AW.regionK 100 (fun _ => none) [0, 1, 2, 3] [0, 1, 2, 3, 4, 5, 6] ?_
 simp only [go_sem, reduceIte, reduceCtorEq, zA, zM, zE, zL, zD, zS, zP, zB, zI, zR, hnl, hnn, yac, yap, augS]
 repeat with_reducible refine cj ?_ ?_
 all_goals try first | omega
 refine hK1 _ _ _ ?_; clear hK1
 refine AW.seq fun K2 hK2 => ?_
 refine AW.seq fun K3 hK3 => ?_
 refine AW.regionK 100 (fun _ => none) [0, 1, 2, 3, 14, 15, 16] [0, 1, 2, 3, 4, 5, 6] ?_
 simp only [go_sem, reduceIte, reduceCtorEq, zA, zM, zE, zL, zD, zS, zP, zB, zI, zR, hnl, hnn, yac, yap, augS, hgn]
 repeat with_reducible refine cj ?_ ?_
 all_goals try first | omega
 refine hK3 _ _ _ ?_; clear hK3
 refine AW.block ?_
 refine AW.loopE (fun mm ee ss kk => ∃ (j v0 v1 v2 v3 v4 v5 v6 : Nat) (s : List Bool) (L R : List Int), row.length - j = mm ∧ ee = [(0, .int .i64 l), (1, .ptr ⟨0, g0, none⟩ 0 0), (2, .ptr ⟨1, g1, none⟩ 0 0), (3, .ptr ⟨2, g2, none⟩ 0 0), (14, .rsl 1 (ints row)), (15, .int .i64 row.length), (16, .int .i64 (j : Nat))] ∧ ss = augS n m nb s L R g0 v0 g1 v1 g2 v2 g3 v3 g4 v4 g5 v5 g6 v6 ∧ (j ≤ row.length ∧ MOk n m nb s L R ∧ uns s < fu + 1 ∧ mgo (mtry nb fu) l (row.drop j) s L R = (b', s', L', R'))) ?_ ?_
 ·refine ⟨_, 0, ?_, ?_, ?_, ?_, ?_, ?_, ?_, s0, L0, R0, rfl, ?henv, ?hstore, ?hst⟩
  case henv =>
   repeat' (first | rfl | refine yaa ?_ ?_ | refine yad ?_ ?_ ?_ ?_ | refine yah ?_ | refine yae ?_ | refine yai ?_ | refine yaj ?_ | refine yan ?_ ?_ ?_ | refine yak ?_ ?_ ?_ | refine yal ?_ | refine yaf ?_ ?_ | refine yab ?_ ?_)
   all_goals (first | (simp; done) | omega | (simp; omega))
  case hstore =>
   repeat' (first | rfl | refine yaa ?_ ?_ | refine yad ?_ ?_ ?_ ?_ | refine yah ?_ | refine yae ?_ | refine yai ?_ | refine yaj ?_ | refine yan ?_ ?_ ?_ | refine yak ?_ ?_ ?_ | refine yal ?_ | refine yaf ?_ ?_ | refine yab ?_ ?_)
   all_goals (first | (simp; done) | omega | (simp; omega))
  case hst =>
   exact ⟨by omega, hok0, hu, hres⟩
 rintro mm ee ss kk ⟨j, v0, v1, v2, v3, v4, v5, v6, s, L, R, rfl, rfl, rfl, hI⟩
 generalize hQl1 : ybd _ _ = Ql1
 obtain ⟨hj, hok, hun, hgo⟩ := hI
 refine AW.seq fun K4 hK4 => ?_
 refine AW.regionK 100 (fun _ => none) [0, 1, 2, 3, 14, 15, 16, 17] [0, 1, 2, 3, 4, 5, 6] ?_
 simp only [go_sem, reduceIte, reduceCtorEq, zA, zM, zE, zL, zD, zS, zP, zB, zI, zR, hnl, hnn, yac, yap, augS]
 repeat with_reducible refine cj ?_ ?_
 all_goals try first | omega
 refine hK4 _ _ _ ?_; clear hK4
 refine AW.seq fun K5 hK5 => ?_
 refine AW.cond rfl (by simp only [go_sem, reduceIte, reduceCtorEq, zA, zM, zE, zL, zD, zS, zP, zB, zI, zR]) ?_ ?_
 ·intro hb
  try simp only [hB, decide_eq_true_eq, decide_eq_false_iff_not] at hb
  obtain ⟨r, hr⟩ := getI (l := row) (j := j) (by omega)
  have hgr := yer hr
  have hrr := hrm r (List.mem_of_getElem? hr)
  have hsl := hok.hs
  have hRl := hok.hR.1
  have hLl := hok.hL.1
  have hgs := yc0 (l := s) (i := r.toNat) (by omega)
  have hgR := ybv (l := R) (i := r.toNat) (by omega)
  have hus := bools_upd s r.toNat true
  have hdr : row.drop j = r :: row.drop (j + 1) := by rw [List.drop_eq_getElem_cons (by omega)]; congr 1; exact (List.getElem?_eq_some_iff.1 hr).2
  rw [hdr] at hgo
  unfold mgo at hgo
  refine AW.skip ?_
  refine hK5 _ _ _ ?_; clear hK5
  refine AW.seq fun K6 hK6 => ?_
  refine AW.block ?_
  refine AW.seq fun K7 hK7 => ?_
  refine AW.regionK 100 (fun _ => none) [0, 1, 2, 3, 7, 14, 15, 16] [0, 1, 2, 3, 4, 5, 6] ?_
  simp only [go_sem, reduceIte, reduceCtorEq, zA, zM, zE, zL, zD, zS, zP, zB, zI, zR, hnl, hnn, yac, yap, augS, hgr]
  repeat with_reducible refine cj ?_ ?_
  all_goals try first | omega
  refine hK7 _ _ _ ?_; clear hK7
  refine AW.seq fun K8 hK8 => ?_
  refine AW.seq fun K9 hK9 => ?_
  refine AW.regionK 100 (fun _ => none) [0, 1, 2, 3, 7, 14, 15, 16, 23] [0, 1, 2, 3, 4, 5, 6] ?_
  simp only [go_sem, reduceIte, reduceCtorEq, zA, zM, zE, zL, zD, zS, zP, zB, zI, zR, hnl, hnn, yac, yap, augS, hsl, hgs]
  repeat with_reducible refine cj ?_ ?_
  all_goals try first | omega
  refine hK9 _ _ _ ?_; clear hK9
  refine AW.cond rfl (by simp only [go_sem, reduceIte, reduceCtorEq, zA, zM, zE, zL, zD, zS, zP, zB, zI, zR]) ?_ ?_
  ·intro hb
   try simp only [hB, decide_eq_true_eq, decide_eq_false_iff_not] at hb
   rw [if_pos hb] at hgo
   refine AW.keep [0, 1, 2, 3, 14, 15, 16] [0, 1, 2, 3, 4, 5, 6] ?_
   try simp only [go_sem, reduceIte, reduceCtorEq, zA, zM, zE, zL, zD, zS, zP, zB, zI, zR]
   refine AW.exit ?_
   refine hK6 _ _ _ ?_; clear hK6
   refine AW.regionK 100 (fun _ => none) [0, 1, 2, 3, 14, 15, 16] [0, 1, 2, 3, 4, 5, 6] ?_
   simp only [go_sem, reduceIte, reduceCtorEq, zA, zM, zE, zL, zD, zS, zP, zB, zI, zR, hnl, hnn, yac, yap, augS]
   repeat with_reducible refine cj ?_ ?_
   all_goals try first | omega
   rw [← hQl1]
   change Exists _
   refine ⟨_, ?hm, j + 1, ?_, ?_, ?_, ?_, ?_, ?_, ?_, ?_, ?_, ?_, rfl, ?henv, ?hstore, ?hst⟩
   case henv =>
    repeat' (first | rfl | refine yaa ?_ ?_ | refine yad ?_ ?_ ?_ ?_ | refine yah ?_ | refine yae ?_ | refine yai ?_ | refine yaj ?_ | refine yan ?_ ?_ ?_ | refine yak ?_ ?_ ?_ | refine yal ?_ | refine yaf ?_ ?_ | refine yab ?_ ?_)
    all_goals (first | (simp; done) | omega | (simp; omega))
   case hstore =>
    repeat' (first | rfl | refine yaa ?_ ?_ | refine yad ?_ ?_ ?_ ?_ | refine yah ?_ | refine yae ?_ | refine yai ?_ | refine yaj ?_ | refine yan ?_ ?_ ?_ | refine yak ?_ ?_ ?_ | refine yal ?_ | refine yaf ?_ ?_ | refine yab ?_ ?_)
    all_goals (first | (simp; done) | omega | (simp; omega))
   case hst =>
    first | exact ⟨by omega, hok, hun, hgo⟩ | exact ⟨by omega, hmk.1, by omega, hgo⟩
   case hm => omega
  ·intro hb
   try simp only [hB, decide_eq_true_eq, decide_eq_false_iff_not] at hb
   rw [if_neg (by rw [hb]; simp)] at hgo
   have hmk := yf2 (r := r) (s := s) (L := L) (R := R) (fun l s L R => yef fu l s L R) hrr hok hb
   generalize hms : ykg (mtry nb fu) r s L R = x at *
   obtain ⟨b2, s2, L2, R2⟩ := x
   simp only at hgo hmk
   refine AW.skip ?_
   refine hK8 _ _ _ ?_; clear hK8
   refine AW.seq fun K10 hK10 => ?_
   refine AW.regionK 100 (fun _ => none) [0, 1, 2, 3, 7, 14, 15, 16] [0, 1, 2, 3, 4, 5, 6] ?_
   simp only [go_sem, reduceIte, reduceCtorEq, zA, zM, zE, zL, zD, zS, zP, zB, zI, zR, hnl, hnn, yac, yap, augS, hsl, hus]
   repeat with_reducible refine cj ?_ ?_
   all_goals try first | omega
   refine hK10 _ _ _ ?_; clear hK10
   refine AW.seq fun K11 hK11 => ?_
   have hD6 : ∀ (w0 w1 w2 w3 w4 w5 w6 : Nat) (kk : Nat), K11 [(0, .int .i64 l), (1, .ptr ⟨0, g0, none⟩ 0 0), (2, .ptr ⟨1, g1, none⟩ 0 0), (3, .ptr ⟨2, g2, none⟩ 0 0), (7, .int .i64 r), (14, .rsl 1 (ints row)), (15, .int .i64 row.length), (16, .int .i64 (j : Nat)), (45, .bool b2)] (augS n m nb s2 L2 R2 g0 w0 g1 w1 g2 w2 g3 w3 g4 w4 g5 w5 g6 w6) kk := by
    intro w0 w1 w2 w3 w4 w5 w6 kk
    refine hK11 _ _ _ ?_; clear hK11
    refine AW.cond rfl (by simp only [go_sem, reduceIte, reduceCtorEq, zA, zM, zE, zL, zD, zS, zP, zB, zI, zR]) ?_ ?_
    ·intro hb
     try simp only [hB, decide_eq_true_eq, decide_eq_false_iff_not] at hb
     subst hb
     simp only [Prod.mk.injEq] at hgo
     obtain ⟨rfl, rfl, rfl, rfl⟩ := hgo
     refine AW.seq fun K14 hK14 => ?_
     refine AW.regionK 100 (fun ii => if ii = 3 then some (.upd [3, 4, 5] (fun kk => [(0, some ⟨g3, kk, 3, [[.rsl 1 (nbR nb), .sl ⟨1, g4, none⟩ 0 n none, .sl ⟨2, g5, none⟩ 0 m none]]⟩), (1, some ⟨g4, kk, 1, ints (L2.set l.toNat r)⟩), (2, some ⟨g5, kk, 1, ints (R2.set r.toNat l)⟩)]) (fun _ => .tup [])) else none) [] [0, 1, 2, 3, 4, 5, 6] ?_
     simp only [go_sem, reduceIte, reduceCtorEq, zA, zM, zE, zL, zD, zS, zP, zB, zI, zR, hnl, hnn, yac, yap, augS]
     repeat with_reducible refine cj ?_ ?_
     all_goals try first | (exact join_u n m (nbR nb) L2 R2 hmk.1.hL.1 hmk.1.hR.1 hn hm l r ⟨hl0, hl1⟩ hrr _ _ _ _ _ _) | omega | exact ent (by kernel_rfl)
     refine hK14 _ _ _ ?_; clear hK14
     refine AW.seq fun K15 hK15 => ?_
     refine AW.regionK 100 (fun _ => none) [5] [0, 1, 2, 3, 4, 5, 6] ?_
     simp only [go_sem, reduceIte, reduceCtorEq, zA, zM, zE, zL, zD, zS, zP, zB, zI, zR, hnl, hnn, yac, yap, augS]
     repeat with_reducible refine cj ?_ ?_
     all_goals try first | omega
     refine hK15 _ _ _ ?_; clear hK15
     refine AW.ret ?_
     rw [← hQl1]
     rw [← hQr]
     simp only [go_sem, reduceIte, reduceCtorEq, zA, zM, zE, zL, zD, zS, zP, zB, zI, zR, hnl, hnn, yac, yap, augS]
     refine ⟨[(0, 0, false), (1, 1, false), (2, 2, false), (3, 3, false), (4, 4, false), (5, 5, false), (6, 6, false)], ?_⟩
     simp only [go_sem, reduceIte, zE, yb6, yfy, augS]
     rfl
    ·intro hb
     try simp only [hB, decide_eq_true_eq, decide_eq_false_iff_not] at hb
     subst hb
     simp only at hgo
     refine AW.skip ?_
     refine hK6 _ _ _ ?_; clear hK6
     refine AW.regionK 100 (fun _ => none) [0, 1, 2, 3, 14, 15, 16] [0, 1, 2, 3, 4, 5, 6] ?_
     simp only [go_sem, reduceIte, reduceCtorEq, zA, zM, zE, zL, zD, zS, zP, zB, zI, zR, hnl, hnn, yac, yap, augS]
     repeat with_reducible refine cj ?_ ?_
     all_goals try first | omega
     rw [← hQl1]
     change Exists _
     refine ⟨_, ?hm, j + 1, ?_, ?_, ?_, ?_, ?_, ?_, ?_, ?_, ?_, ?_, rfl, ?henv, ?hstore, ?hst⟩
     case henv =>
      repeat' (first | rfl | refine yaa ?_ ?_ | refine yad ?_ ?_ ?_ ?_ | refine yah ?_ | refine yae ?_ | refine yai ?_ | refine yaj ?_ | refine yan ?_ ?_ ?_ | refine yak ?_ ?_ ?_ | refine yal ?_ | refine yaf ?_ ?_ | refine yab ?_ ?_)
      all_goals (first | (simp; done) | omega | (simp; omega))
     case hstore =>
      repeat' (first | rfl | refine yaa ?_ ?_ | refine yad ?_ ?_ ?_ ?_ | refine yah ?_ | refine yae ?_ | refine yai ?_ | refine yaj ?_ | refine yan ?_ ?_ ?_ | refine yak ?_ ?_ ?_ | refine yal ?_ | refine yaf ?_ ?_ | refine yab ?_ ?_)
      all_goals (first | (simp; done) | omega | (simp; omega))
     case hst =>
      first | exact ⟨by omega, hok, hun, hgo⟩ | exact ⟨by omega, hmk.1, by omega, hgo⟩
     case hm => omega
   by_cases hn6 : R.getD r.toNat 0 < 0
   ·-- region 6
    have hd6 : decide (R.getD r.toNat 0 < 0) = true := decide_eq_true hn6
    simp only [ykg, if_pos hn6, Prod.mk.injEq] at hms
    obtain ⟨rfl, rfl, rfl, rfl⟩ := hms
    refine AW.regionD yd6 100 (fun ii => if ii = 17 then some (.skip) else none) [0, 1, 2, 3, 7, 14, 15, 16, 45] [0, 1, 2, 3, 4, 5, 6] ?_
    simp only [go_sem, reduceIte, reduceCtorEq, zA, zM, zE, zL, zD, zS, zP, zB, zI, zR, hnl, hnn, yac, yap, augS, hRl, hgR, hd6]
    repeat with_reducible refine cj ?_ ?_
    all_goals try first | omega | exact chk (by kernel_rfl) | exact ent (by kernel_rfl) | (intros; (repeat' apply And.intro) <;> first | assumption | omega | decide) | (intro hgd; exact absurd hgd (by decide)) | rfl | (simp only [go_sem, reduceIte, reduceCtorEq, zA, zM, zE, zL, zD, zS, zP, zB, zI, zR, hnl, hnn, yac, yap, augS, hRl, hgR, hd6]; done) | (intro _hgd; simp_all [go_sem]; done)
    exact hD6 _ _ _ _ _ _ _ _
   ·-- region 6
    have hd6 : decide (R.getD r.toNat 0 < 0) = false := decide_eq_false hn6
    simp only [ykg, if_neg hn6] at hms
    have hRn := hok.hR.2 (R.getD r.toNat 0) (yb1 (by omega) 0)
    have hih := ih (R.getD r.toNat 0) (s.set r.toNat true) L R b2 s2 L2 R2 (by have := yl6 (s := s) (i := r.toNat) (by omega) hb; omega) (by omega) hRn (hok.seen _) hms
    unfold augS at *
    refine AW.regionD yd6 100 (fun ii => if ii = 17 then some (.upd [0, 1, 2, 3, 4, 5, 6] (fun kk => augS n m nb s2 L2 R2 g0 kk g1 kk g2 kk g3 kk g4 kk g5 kk g6 kk) (fun _ => .bool b2)) else none) [0, 1, 2, 3, 7, 14, 15, 16, 45] [0, 1, 2, 3, 4, 5, 6] ?_
    simp only [go_sem, reduceIte, reduceCtorEq, zA, zM, zE, zL, zD, zS, zP, zB, zI, zR, hnl, hnn, yac, yap, augS, hRl, hgR, hd6]
    repeat with_reducible refine cj ?_ ?_
    all_goals try first | (exact hih _ _ _ _ _ _ _ _ _ _ _ _ _ _) | (intros; (repeat' apply And.intro) <;> first | assumption | (exact hih _ _ _ _ _ _ _ _ _ _ _ _ _ _)) | omega | exact chk (by kernel_rfl) | exact ent (by kernel_rfl) | (intro hgd; exact absurd hgd (by decide)) | rfl | (simp only [go_sem, reduceIte, reduceCtorEq, zA, zM, zE, zL, zD, zS, zP, zB, zI, zR, hnl, hnn, yac, yap, augS, hRl, hgR, hd6]; done) | (intro _hgd; simp_all [go_sem]; done)
    exact hD6 _ _ _ _ _ _ _ _
 ·intro hb
  try simp only [hB, decide_eq_true_eq, decide_eq_false_iff_not] at hb
  have hj2 : j = row.length := by omega
  rw [hj2, List.drop_length] at hgo
  unfold mgo at hgo
  simp only [Prod.mk.injEq] at hgo
  obtain ⟨rfl, rfl, rfl, rfl⟩ := hgo
  refine AW.keep [] [0, 1, 2, 3, 4, 5, 6] ?_
  try simp only [go_sem, reduceIte, reduceCtorEq, zA, zM, zE, zL, zD, zS, zP, zB, zI, zR]
  refine AW.exit ?_
  rw [← hQl1]
  refine hK2 _ _ _ ?_; clear hK2
  refine AW.seq fun K16 hK16 => ?_
  refine AW.regionK 100 (fun _ => none) [5] [0, 1, 2, 3, 4, 5, 6] ?_
  simp only [go_sem, reduceIte, reduceCtorEq, zA, zM, zE, zL, zD, zS, zP, zB, zI, zR, hnl, hnn, yac, yap, augS]
  repeat with_reducible refine cj ?_ ?_
  all_goals try first | omega
  refine hK16 _ _ _ ?_; clear hK16
  refine AW.ret ?_
  rw [← hQr]
  simp only [go_sem, reduceIte, reduceCtorEq, zA, zM, zE, zL, zD, zS, zP, zB, zI, zR, hnl, hnn, yac, yap, augS]
  refine ⟨[(0, 0, false), (1, 1, false), (2, 2, false), (3, 3, false), (4, 4, false), (5, 5, false), (6, 6, false)], ?_⟩
  simp only [go_sem, reduceIte, zE, yb6, yfy, augS]
  rfl
end Go.Proofs.W.M

namespace Go.Proofs.W.M
open Go.AM Go
set_option maxRecDepth 100000
set_option maxHeartbeats 2000000
def yb9 (n m : Nat) (nb : List (List Int)) (L R : List Int) (g0 v0 g1 v1 g2 v2 : Nat) : yao :=
 [(0, some ⟨g0, v0, 3, [[.rsl 1 (nbR nb), .sl ⟨1, g1, none⟩ 0 n none, .sl ⟨2, g2, none⟩ 0 m none]]⟩), (1, some ⟨g1, v1, 1, ints L⟩), (2, some ⟨g2, v2, 1, ints R⟩)]
theorem aug_u {n m : Nat} (hn : n ≤ 512) (hm : m ≤ 512) {nb : List (List Int)} (hrl : ∀ row ∈ nb, row.length ≤ 100000) (l : Int) (L R : List Int) (b' : Bool) (s' : List Bool) (L' R' : List Int) (hl0 : 0 ≤ l) (hl1 : l < (n : Int)) (hok : MOk n m nb (List.replicate m false) L R)
  (hres : mtry nb (m + 1) l (List.replicate m false) L R = (b', s', L', R')) (g0 v0 g1 v1 g2 v2 : Nat) :
  Upd Tryd.prog 92 (yb9 n m nb L R g0 v0 g1 v1 g2 v2) [.ptr ⟨0, g0, none⟩ 0 0, .int .i64 l] (fun _ => .bool b') (fun kk => yb9 n m nb L' R' g0 kk g1 kk g2 kk) := by
 have hty := try_u hn hm hrl (m + 1) l (List.replicate m false) L R b' s' L' R' (by rw [ycq]; omega) hl0 hl1 hok hres
 unfold augS at hty
 have hz : List.replicate m [AV.bool false] = ybc (List.replicate m false) := by simp [ybc]
 unfold yb9 at *
 refine Upd.of_body (rs := [.tmp 4]) Tryd.func92 rfl Tryd.ntmps92 rfl (by simp) ?_
 intro k0 k hk0 hk1
 generalize hQr : retQ _ _ _ = Qr
 refine AW.seq fun K1 hK1 => ?_
 refine AW.regionK 100 (fun _ => none) [1, 2] [0, 1, 2, 102] ?_
 simp only [go_sem, reduceIte, reduceCtorEq, zA, zM, zE, zL, zD, zS, zP, zB, zI, zR, hz, augS]
 repeat with_reducible refine cj ?_ ?_
 all_goals try first | omega
 refine hK1 _ _ _ ?_; clear hK1
 refine AW.seq fun K2 hK2 => ?_
 refine AW.regionK 100 (fun _ => none) [1, 2, 5] [0, 1, 2, 102, 105, 112] ?_
 simp only [go_sem, reduceIte, reduceCtorEq, zA, zM, zE, zL, zD, zS, zP, zB, zI, zR, hz, augS]
 repeat with_reducible refine cj ?_ ?_
 all_goals try first | omega
 refine hK2 _ _ _ ?_; clear hK2
 refine AW.seq fun K3 hK3 => ?_
 refine AW.regionK 100 (fun _ => none) [1, 2, 5, 6] [0, 1, 2, 102, 105, 106, 112] ?_
 simp only [go_sem, reduceIte, reduceCtorEq, zA, zM, zE, zL, zD, zS, zP, zB, zI, zR, hz, augS]
 repeat with_reducible refine cj ?_ ?_
 all_goals try first | omega
 refine hK3 _ _ _ ?_; clear hK3
 refine AW.seq fun K4 hK4 => ?_
 refine AW.regionK 100 (fun _ => none) [1, 6] [0, 1, 2, 102, 105, 106, 112] ?_
 simp only [go_sem, reduceIte, reduceCtorEq, zA, zM, zE, zL, zD, zS, zP, zB, zI, zR, hz, augS]
 repeat with_reducible refine cj ?_ ?_
 all_goals try first | omega
 refine hK4 _ _ _ ?_; clear hK4
 refine AW.seq fun K5 hK5 => ?_
 refine AW.regionK 100 (fun ii => if ii = 2 then some (.upd [102, 105, 106, 0, 1, 2, 112] (fun kk => augS n m nb s' L' R' k kk (k + 16) kk (k + 20) kk g0 kk g1 kk g2 kk (k + 14) kk) (fun _ => .bool b')) else none) [4] [0, 1, 2] ?_
 simp only [go_sem, reduceIte, reduceCtorEq, zA, zM, zE, zL, zD, zS, zP, zB, zI, zR, hz, augS]
 repeat with_reducible refine cj ?_ ?_
 all_goals try first | (exact hty _ _ _ _ _ _ _ _ _ _ _ _ _ _) | omega | exact ent (by kernel_rfl)
 refine hK5 _ _ _ ?_; clear hK5
 refine AW.ret ?_
 rw [← hQr]
 simp only [go_sem, reduceIte, reduceCtorEq, zA, zM, zE, zL, zD, zS, zP, zB, zI, zR, hz, augS]
 refine ⟨[(0, 0, false), (1, 1, false), (2, 2, false)], ?_⟩
 simp only [go_sem, reduceIte, zE, yb6, yb9]
 rfl
end Go.Proofs.W.M

namespace Go.Proofs.W.M
open Go.AM Go
set_option maxRecDepth 100000
set_option maxHeartbeats 2000000
theorem yrs {l : List (List Int)} {i : Nat} (h : i < l.length) : (nbV l).getD i [] = [.osl 1 (ints (l.getD i []))] := by
 simp [nbV, List.getD_eq_getElem?_getD, h]
theorem nbV_set (l : List (List Int)) (i : Nat) (row : List Int) : (nbV l).set i [.osl 1 (ints row)] = nbV (l.set i row) := by
 unfold nbV; rw [List.map_set]
theorem vwc_nbV (s : yao) (d : Nat) (nb : List (List Int)) : (nbV nb).map (fun cs => cs.map (vwc s d)) = nbR nb := by
 simp [nbV, nbR, yon, yre]
theorem made_u {n m : Nat} (hn : n ≤ 512) (hm : m ≤ 512) {E : List (Int × Int)} (hE : ∀ e ∈ E, yb8 n m e = true) (hl : E.length ≤ 2000) :
  Upd Tryd.prog 91 [] [.int .i64 n, .int .i64 m, .rsl 2 (E.map ya6)] (fun k => .ptr ⟨0, k, none⟩ 0 0) (fun k => yb9 n m (nbOf n E) (List.replicate n (-1)) (List.replicate m (-1)) k k k k k k) := by
 have hf1 := yst n (by omega)
 have hf2 := yst m (by omega)
 unfold yb9
 refine Upd.of_body (rs := [.tmp 6]) Tryd.func91 rfl Tryd.ntmps91 rfl (by simp) ?_
 intro k0 k hk0 hk1
 generalize hQr : retQ _ _ _ = Qr
 refine AW.seq fun K1 hK1 => ?_
 refine AW.regionK 100 (fun _ => none) [0, 1, 2] [111, 113, 115, 117] ?_
 simp only [go_sem, reduceIte, reduceCtorEq, zA, zM, zE, zL, zD, zS, zP, zB, zI, zR]
 repeat with_reducible refine cj ?_ ?_
 all_goals try first | omega
 refine hK1 _ _ _ ?_; clear hK1
 refine AW.seq fun K2 hK2 => ?_
 refine AW.regionD yd6 100 (fun ii => if ii = 3 then some (.upd [] (fun k => [(0, some ⟨k, k, 1, ints (List.replicate n (-1))⟩)]) (fun k => .sl ⟨0, k, none⟩ 0 n none)) else if ii = 5 then some (.upd [] (fun k => [(0, some ⟨k, k, 1, ints (List.replicate m (-1))⟩)]) (fun k => .sl ⟨0, k, none⟩ 0 m none)) else none) [2, 7] [111, 113, 115, 117] ?_
 simp only [go_sem, reduceIte, reduceCtorEq, zA, zM, zE, zL, zD, zS, zP, zB, zI, zR]
 repeat with_reducible refine cj ?_ ?_
 all_goals try first | (first | exact hf1 | exact hf2) | omega | exact chk (by kernel_rfl) | exact ent (by kernel_rfl)
 refine hK2 _ _ _ ?_; clear hK2
 refine AW.nils_own (pid := 111) 1 (nbV (List.replicate n [])) (by simp only [go_sem, reduceIte, zE]; rfl) (show (1 : Nat) ≠ ya9 by decide) (by simp [nbV]) ?_ ?_
 ·intro i hi
  simp only [List.length_replicate] at hi
  have h1 : (List.replicate n [AV.nilsl]).getD i [] = [.nilsl] := by simp [List.getD_eq_getElem?_getD, hi]
  rw [h1, yrs (by simpa using hi)]
  refine ⟨rfl, fun j => ?_⟩
  cases j with
  | zero => exact .inr ⟨rfl, by simp [List.getD_eq_getElem?_getD, hi, ints]⟩
  | succ j => exact .inl rfl
 refine AW.keep [2, 7] [111, 113, 115, 117] ?_
 simp only [go_sem, reduceIte, zE]
 refine AW.seq fun K3 hK3 => ?_
 refine AW.seq fun K4 hK4 => ?_
 refine AW.regionK 100 (fun _ => none) [7, 18, 19, 20] [111, 113, 115, 117] ?_
 simp only [go_sem, reduceIte, reduceCtorEq, zA, zM, zE, zL, zD, zS, zP, zB, zI, zR]
 repeat with_reducible refine cj ?_ ?_
 all_goals try first | omega
 refine hK4 _ _ _ ?_; clear hK4
 refine AW.block ?_
 refine AW.loopE (fun mm ee ss kk => ∃ (j g1 v1 g3 v3 g5 v5 g7 v7 : Nat), E.length - j = mm ∧ ee = [(7, .ptr ⟨117, g7, none⟩ 0 0), (18, .rsl 2 (E.map ya6)), (19, .int .i64 E.length), (20, .int .i64 (j : Nat))] ∧ ss = [(111, some ⟨g1, v1, 1, nbV (nbOf n (E.take j))⟩), (113, some ⟨g3, v3, 1, ints (List.replicate n (-1))⟩), (115, some ⟨g5, v5, 1, ints (List.replicate m (-1))⟩), (117, some ⟨g7, v7, 3, [[.sl ⟨111, g1, none⟩ 0 n none, .sl ⟨113, g3, none⟩ 0 n none, .sl ⟨115, g5, none⟩ 0 m none]]⟩)] ∧ (j ≤ E.length)) ?_ ?_
 ·refine ⟨_, 0, ?_, ?_, ?_, ?_, ?_, ?_, ?_, ?_, rfl, ?henv, ?hstore, ?hst⟩
  case henv =>
   repeat' (first | rfl | refine yaa ?_ ?_ | refine yad ?_ ?_ ?_ ?_ | refine yah ?_ | refine yae ?_ | refine yai ?_ | refine yaj ?_ | refine yan ?_ ?_ ?_ | refine yak ?_ ?_ ?_ | refine yal ?_ | refine yaf ?_ ?_ | refine yab ?_ ?_)
   all_goals (first | (simp; done) | omega | (simp; omega))
  case hstore =>
   repeat' (first | rfl | refine yaa ?_ ?_ | refine yad ?_ ?_ ?_ ?_ | refine yah ?_ | refine yae ?_ | refine yai ?_ | refine yaj ?_ | refine yan ?_ ?_ ?_ | refine yak ?_ ?_ ?_ | refine yal ?_ | refine yaf ?_ ?_ | refine yab ?_ ?_)
   all_goals (first | (simp; done) | omega | (simp; omega))
  case hst =>
   first | trivial | omega | (simp; done) | (simp; omega)
 rintro mm ee ss kk ⟨j, g1, v1, g3, v3, g5, v5, g7, v7, rfl, rfl, rfl, hI⟩
 generalize hQl1 : ybd _ _ = Ql1
 refine AW.seq fun K5 hK5 => ?_
 refine AW.regionK 100 (fun _ => none) [7, 18, 19, 20, 21] [111, 113, 115, 117] ?_
 simp only [go_sem, reduceIte, reduceCtorEq, zA, zM, zE, zL, zD, zS, zP, zB, zI, zR]
 repeat with_reducible refine cj ?_ ?_
 all_goals try first | omega
 refine hK5 _ _ _ ?_; clear hK5
 refine AW.seq fun K6 hK6 => ?_
 refine AW.cond rfl (by simp only [go_sem, reduceIte, reduceCtorEq, zA, zM, zE, zL, zD, zS, zP, zB, zI, zR]) ?_ ?_
 ·intro hb
  try simp only [hB, decide_eq_true_eq, decide_eq_false_iff_not] at hb
  obtain ⟨e, he⟩ := getI (l := E) (j := j) (by omega)
  have hge := getV (f := ya6) he
  obtain ⟨q1, q2, q3, q4⟩ := edgeIn_iff.1 (hE e (List.mem_of_getElem? he))
  have hsu := nbOf_succ (n := n) he
  unfold yil at hsu
  have hnl := yf4 n (E.take j)
  have hrw := ymj n (E.take j)
  generalize nbOf n (E.take j) = nb at *
  have hgn := yrs (l := nb) (i := e.1.toNat) (by omega)
  have hre := hrw (nb.getD e.1.toNat []) (yb1 (by omega) [])
  rw [List.length_take] at hre
  have hs1 : ∀ v, ((nbV nb).set e.1.toNat v).getD e.1.toNat [] = v := fun v => getD_set_eq (by rw [nbV_len]; omega) _ _
  refine AW.skip ?_
  refine hK6 _ _ _ ?_; clear hK6
  refine AW.seq fun K7 hK7 => ?_
  refine AW.block ?_
  refine AW.seq fun K8 hK8 => ?_
  refine AW.regionK 100 (fun _ => none) [7, 9, 18, 19, 20] [109, 111, 113, 115, 117] ?_
  simp only [go_sem, reduceIte, reduceCtorEq, zA, zM, zE, zL, zD, zS, zP, zB, zI, zR, hge, ya6]
  repeat with_reducible refine cj ?_ ?_
  all_goals try first | omega
  refine hK8 _ _ _ ?_; clear hK8
  refine AW.regionD yd6 100 (fun _ => none) [7, 18, 19, 20] [111, 113, 115, 117, 141] ?_
  simp only [go_sem, reduceIte, reduceCtorEq, zA, zM, zE, zL, zD, zS, zP, zB, zI, zR, nbV_len, hnl, hgn, hs1, yac, List.set_set, List.take_length, ylz, Int.toNat_natCast]
  repeat with_reducible refine cj ?_ ?_
  all_goals try first | omega | exact chk (by kernel_rfl) | (simp [scP, ybi]; done) | exact ybe _ | exact ybj _ | exact ybf _
  refine hK7 _ _ _ ?_; clear hK7
  refine AW.adoptK 111 e.1.toNat 0 141 ?_
  simp only [go_sem, reduceIte, zE, hs1, List.set_set, nbV_set, nbV_len]
  repeat refine cj ?_ ?_
  any_goals first | exact yk9 _ | (simp only [List.length_append, List.length_cons, List.length_nil]; done) | omega | decide
  refine AW.keep [7, 18, 19, 20] [111, 113, 115, 117] ?_
  simp only [go_sem, reduceIte, zE]
  refine AW.regionK 100 (fun _ => none) [7, 18, 19, 20] [111, 113, 115, 117] ?_
  simp only [go_sem, reduceIte, reduceCtorEq, zA, zM, zE, zL, zD, zS, zP, zB, zI, zR]
  repeat with_reducible refine cj ?_ ?_
  all_goals try first | omega
  rw [← hQl1]
  change Exists _
  refine ⟨_, ?hm, j + 1, ?_, ?_, ?_, ?_, ?_, ?_, ?_, ?_, rfl, ?henv, ?hstore, ?hst⟩
  case henv =>
   repeat' (first | rfl | refine yaa ?_ ?_ | refine yad ?_ ?_ ?_ ?_ | refine yah ?_ | refine yae ?_ | refine yai ?_ | refine yaj ?_ | refine yan ?_ ?_ ?_ | refine yak ?_ ?_ ?_ | refine yal ?_ | refine yaf ?_ ?_ | refine yab ?_ ?_)
   all_goals (first | (simp; done) | omega | (simp; omega))
  case hstore =>
   repeat' (first | rfl | refine yaa ?_ ?_ | refine yad ?_ ?_ ?_ ?_ | refine yah ?_ | refine yae ?_ | refine yai ?_ | refine yaj ?_ | refine yan ?_ ?_ ?_ | refine yak ?_ ?_ ?_ | refine yal ?_ | refine yaf ?_ ?_ | refine yab ?_ ?_)
   all_goals (rw [hsu])
  case hst =>
   first | trivial | omega | (simp; done) | (simp; omega)
  case hm => omega
 ·intro hb
  try simp only [hB, decide_eq_true_eq, decide_eq_false_iff_not] at hb
  have hj : j = E.length := by omega
  subst hj
  rw [List.take_length]
  have hnl := yf4 n E
  have htk : (nbV (nbOf n E)).take n = nbV (nbOf n E) := List.take_of_length_le (by rw [nbV_len]; omega)
  refine AW.keep [7] [111, 113, 115, 117, 141] ?_
  try simp only [go_sem, reduceIte, reduceCtorEq, zA, zM, zE, zL, zD, zS, zP, zB, zI, zR]
  refine AW.exit ?_
  rw [← hQl1]
  refine hK3 _ _ _ ?_; clear hK3
  refine AW.seq fun K9 hK9 => ?_
  refine AW.regionK 100 (fun _ => none) [6] [111, 113, 115, 117] ?_
  simp only [go_sem, reduceIte, reduceCtorEq, zA, zM, zE, zL, zD, zS, zP, zB, zI, zR]
  repeat with_reducible refine cj ?_ ?_
  all_goals try first | omega
  refine hK9 _ _ _ ?_; clear hK9
  refine AW.frzCellK [111] 5 117 0 0 ?_
  simp only [go_sem, reduceIte, zE, htk, vwc_nbV]
  refine ⟨rfl, by decide, by decide, by decide, ?_⟩
  refine AW.keep [6] [113, 115, 117] ?_
  simp only [go_sem, reduceIte, zE]
  refine AW.ret ?_
  rw [← hQr]
  simp only [go_sem, reduceIte, reduceCtorEq, zA, zM, zE, zL, zD, zS, zP, zB, zI, zR]
  refine ⟨[(117, 0, true), (113, 1, true), (115, 2, true)], ?_⟩
  simp only [go_sem, reduceIte, zE, yb6]
  exact ⟨rfl, rfl⟩
end Go.Proofs.W.M

namespace Go.Proofs.W.M
open Go.AM Go
set_option maxRecDepth 100000
set_option maxHeartbeats 2000000
theorem maximum_u {n m : Nat} (hn : n ≤ 512) (hm : m ≤ 512) {E : List (Int × Int)} (hE : ∀ e ∈ E, yb8 n m e = true) (hl : E.length ≤ 2000) :
  Upd Tryd.prog 82 [] [.int .i64 n, .int .i64 m, .rsl 2 (E.map ya6)] (fun k => .ptr ⟨0, k, none⟩ 0 0) (fun k => yb9 n m (nbOf n E) (maxLR (nbOf n E) n m n).1 (maxLR (nbOf n E) n m n).2 k k k k k k) := by
 have hmd := made_u hn hm hE hl
 have hnl := yf4 n E
 have hrw := ymj n E
 have hrg : ∀ row ∈ nbOf n E, ∀ r ∈ row, 0 ≤ r ∧ r < (m : Int) := ymk fun e he => by have := edgeIn_iff.1 (hE e he); omega
 generalize nbOf n E = nb at *
 have hok := yml hnl hrg
 have hLl : (List.replicate n (-1 : Int)).length = n := by simp
 refine Upd.of_body (rs := [.tmp 6]) Tryd.func82 rfl Tryd.ntmps82 rfl (by simp) ?_
 intro k0 k hk0 hk1
 generalize hQr : retQ _ _ _ = Qr
 refine AW.seq fun K1 hK1 => ?_
 refine AW.regionK 100 (fun _ => none) [0, 1, 2] [112, 1112, 2112] ?_
 simp only [go_sem, reduceIte, reduceCtorEq, zA, zM, zE, zL, zD, zS, zP, zB, zI, zR, yb9, yac, hLl]
 repeat with_reducible refine cj ?_ ?_
 all_goals try first | omega
 refine hK1 _ _ _ ?_; clear hK1
 refine AW.seq fun K2 hK2 => ?_
 refine AW.regionK 100 (fun ii => if ii = 3 then some (.upd [] (fun k => yb9 n m nb (List.replicate n (-1)) (List.replicate m (-1)) k k k k k k) (fun k => .ptr ⟨0, k, none⟩ 0 0)) else none) [7] [112, 1112, 2112] ?_
 simp only [go_sem, reduceIte, reduceCtorEq, zA, zM, zE, zL, zD, zS, zP, zB, zI, zR, yb9, yac, hLl]
 repeat with_reducible refine cj ?_ ?_
 all_goals try first | ((unfold yb9 at hmd; exact hmd)) | omega | exact ent (by kernel_rfl)
 refine hK2 _ _ _ ?_; clear hK2
 refine AW.seq fun K3 hK3 => ?_
 refine AW.seq fun K4 hK4 => ?_
 refine AW.regionK 100 (fun _ => none) [7, 17, 18] [112, 1112, 2112] ?_
 simp only [go_sem, reduceIte, reduceCtorEq, zA, zM, zE, zL, zD, zS, zP, zB, zI, zR, yb9, yac, hLl]
 repeat with_reducible refine cj ?_ ?_
 all_goals try first | omega
 refine hK4 _ _ _ ?_; clear hK4
 refine AW.block ?_
 refine AW.loopE (fun mm ee ss kk => ∃ (j g0 v0 g1 v1 g2 v2 : Nat), n - j = mm ∧ ee = [(7, .ptr ⟨112, g0, none⟩ 0 0), (17, .int .i64 n), (18, .int .i64 (j : Nat))] ∧ ss = [(112, some ⟨g0, v0, 3, [[.rsl 1 (nbR nb), .sl ⟨1112, g1, none⟩ 0 n none, .sl ⟨2112, g2, none⟩ 0 m none]]⟩), (1112, some ⟨g1, v1, 1, ints (maxLR nb n m j).1⟩), (2112, some ⟨g2, v2, 1, ints (maxLR nb n m j).2⟩)] ∧ (j ≤ n)) ?_ ?_
 ·refine ⟨_, 0, ?_, ?_, ?_, ?_, ?_, ?_, rfl, ?henv, ?hstore, ?hst⟩
  case henv =>
   repeat' (first | rfl | refine yaa ?_ ?_ | refine yad ?_ ?_ ?_ ?_ | refine yah ?_ | refine yae ?_ | refine yai ?_ | refine yaj ?_ | refine yan ?_ ?_ ?_ | refine yak ?_ ?_ ?_ | refine yal ?_ | refine yaf ?_ ?_ | refine yab ?_ ?_)
   all_goals (first | (simp; done) | omega | (simp; omega))
  case hstore =>
   repeat' (first | rfl | refine yaa ?_ ?_ | refine yad ?_ ?_ ?_ ?_ | refine yah ?_ | refine yae ?_ | refine yai ?_ | refine yaj ?_ | refine yan ?_ ?_ ?_ | refine yak ?_ ?_ ?_ | refine yal ?_ | refine yaf ?_ ?_ | refine yab ?_ ?_)
   all_goals (first | (simp; done) | omega | (simp; omega))
  case hst =>
   first | trivial | omega | (simp; done) | (simp; omega)
 rintro mm ee ss kk ⟨j, g0, v0, g1, v1, g2, v2, rfl, rfl, rfl, hI⟩
 generalize hQl1 : ybd _ _ = Ql1
 refine AW.seq fun K5 hK5 => ?_
 refine AW.regionK 100 (fun _ => none) [7, 17, 18, 19] [112, 1112, 2112] ?_
 simp only [go_sem, reduceIte, reduceCtorEq, zA, zM, zE, zL, zD, zS, zP, zB, zI, zR, yb9, yac, hLl]
 repeat with_reducible refine cj ?_ ?_
 all_goals try first | omega
 refine hK5 _ _ _ ?_; clear hK5
 refine AW.seq fun K6 hK6 => ?_
 refine AW.cond rfl (by simp only [go_sem, reduceIte, reduceCtorEq, zA, zM, zE, zL, zD, zS, zP, zB, zI, zR]) ?_ ?_
 ·intro hb
  try simp only [hB, decide_eq_true_eq, decide_eq_false_iff_not] at hb
  have hoj := hok j (by omega)
  obtain ⟨⟨b', s', L', R'⟩, hx⟩ : ∃ x, mtry nb (m + 1) (j : Int) (List.replicate m false) (maxLR nb n m j).1 (maxLR nb n m j).2 = x := ⟨_, rfl⟩
  have hau := aug_u hn hm (fun row hr => by have := hrw row hr; omega) (j : Int) (maxLR nb n m j).1 (maxLR nb n m j).2 b' s' L' R' (by omega) (by omega) hoj hx
  have hsu : (maxLR nb n m (j + 1)) = (L', R') := by show (mtry nb (m + 1) (j : Int) (List.replicate m false) (maxLR nb n m j).1 (maxLR nb n m j).2).2.2 = _; rw [hx]
  unfold yb9 at hau
  refine AW.skip ?_
  refine hK6 _ _ _ ?_; clear hK6
  refine AW.seq fun K7 hK7 => ?_
  refine AW.block ?_
  refine AW.seq fun K8 hK8 => ?_
  refine AW.regionK 100 (fun _ => none) [7, 8, 17, 18] [112, 1112, 2112] ?_
  simp only [go_sem, reduceIte, reduceCtorEq, zA, zM, zE, zL, zD, zS, zP, zB, zI, zR, yb9, yac, hLl]
  repeat with_reducible refine cj ?_ ?_
  all_goals try first | omega
  refine hK8 _ _ _ ?_; clear hK8
  refine AW.regionK 100 (fun ii => if ii = 2 then some (.upd [112, 1112, 2112] (fun kk => yb9 n m nb L' R' g0 kk g1 kk g2 kk) (fun _ => .bool b')) else none) [7, 17, 18] [112, 1112, 2112] ?_
  simp only [go_sem, reduceIte, reduceCtorEq, zA, zM, zE, zL, zD, zS, zP, zB, zI, zR, yb9, yac, hLl]
  repeat with_reducible refine cj ?_ ?_
  all_goals try first | (exact hau _ _ _ _ _ _) | omega | exact ent (by kernel_rfl)
  refine hK7 _ _ _ ?_; clear hK7
  refine AW.regionK 100 (fun _ => none) [7, 17, 18] [112, 1112, 2112] ?_
  simp only [go_sem, reduceIte, reduceCtorEq, zA, zM, zE, zL, zD, zS, zP, zB, zI, zR, yb9, yac, hLl]
  repeat with_reducible refine cj ?_ ?_
  all_goals try first | omega
  rw [← hQl1]
  change Exists _
  refine ⟨_, ?hm, j + 1, ?_, ?_, ?_, ?_, ?_, ?_, rfl, ?henv, ?hstore, ?hst⟩
  case henv =>
   repeat' (first | rfl | refine yaa ?_ ?_ | refine yad ?_ ?_ ?_ ?_ | refine yah ?_ | refine yae ?_ | refine yai ?_ | refine yaj ?_ | refine yan ?_ ?_ ?_ | refine yak ?_ ?_ ?_ | refine yal ?_ | refine yaf ?_ ?_ | refine yab ?_ ?_)
   all_goals (first | (simp; done) | omega | (simp; omega))
  case hstore =>
   repeat' (first | rfl | refine yaa ?_ ?_ | refine yad ?_ ?_ ?_ ?_ | refine yah ?_ | refine yae ?_ | refine yai ?_ | refine yaj ?_ | refine yan ?_ ?_ ?_ | refine yak ?_ ?_ ?_ | refine yal ?_ | refine yaf ?_ ?_ | refine yab ?_ ?_)
   all_goals (rw [hsu])
  case hst =>
   first | trivial | omega | (simp; done) | (simp; omega)
  case hm => omega
 ·intro hb
  try simp only [hB, decide_eq_true_eq, decide_eq_false_iff_not] at hb
  have hj : j = n := by omega
  subst hj
  refine AW.keep [7] [112, 1112, 2112] ?_
  try simp only [go_sem, reduceIte, reduceCtorEq, zA, zM, zE, zL, zD, zS, zP, zB, zI, zR]
  refine AW.exit ?_
  rw [← hQl1]
  refine hK3 _ _ _ ?_; clear hK3
  refine AW.seq fun K9 hK9 => ?_
  refine AW.regionK 100 (fun _ => none) [6] [112, 1112, 2112] ?_
  simp only [go_sem, reduceIte, reduceCtorEq, zA, zM, zE, zL, zD, zS, zP, zB, zI, zR, yb9, yac, hLl]
  repeat with_reducible refine cj ?_ ?_
  all_goals try first | omega
  refine hK9 _ _ _ ?_; clear hK9
  refine AW.ret ?_
  rw [← hQr]
  simp only [go_sem, reduceIte, reduceCtorEq, zA, zM, zE, zL, zD, zS, zP, zB, zI, zR, yb9, yac, hLl]
  refine ⟨[(112, 0, true), (1112, 1, true), (2112, 2, true)], ?_⟩
  simp only [go_sem, reduceIte, zE, yb6, yb9]
  first | rfl | exact ⟨rfl, rfl⟩
end Go.Proofs.W.M

/- A contract that makes memory answers as one that reads. -/
namespace Go.AM
theorem Upd.reads {P : Program} {f : FuncId} {args : List AV} {res : Nat → AV} {s1 : Nat → yao} {r : AV} (h : Upd P f [] args res s1) (hr : Wk (vwF (s1 0) 5 (res 0)) r) : Reads P f true args r := by
  intro w F us hF hgl hl hrel
  have hr' : ∀ i, i < args.length → Rel ⟨fun _ => none, [], clk 0, w, fun _ => False⟩ (args.getD i .any) (us.getD i undef) := fun i hi => .pure _ _ ((hrel i hi).mono fun b hb => ⟨⟨hb.1, fun ⟨π, y, base, h1, _⟩ => by simp [yag, sget] at h1, fun h => h⟩, rfl⟩)
  have hst : StOk ⟨fun _ => none, [], clk 0, w, fun _ => False⟩ := ylv (fun _ h => h.elim) (hgl.mono fun b hb => ⟨⟨hb.1, fun h => h⟩, rfl⟩)
  refine (h (clk 0) 0 0 (fun _ => none) w (fun _ => False) us (fun g hg => hg) (fun hg => Nat.lt_irrefl _ hg) (fun hg => absurd hg (Nat.not_lt_zero _)) hst hl hr').mono fun e w' ⟨u, ρ', h1, h2, h3⟩ => ⟨u, h1, ?_, ?_⟩
  · exact ⟨h2.ext.os, h2.ext.tape, h2.ext.output, h2.ext.size, fun b hb _ => h2.ext.block b hb fun ⟨π, y, base, e1, _⟩ => by simp [yag, sget] at e1⟩
  · refine hr _ _ _ (ynf h2.ok (fun b hb => ⟨?_, fun hlt => ?_⟩) 5 (res 0) u h3)
    · obtain ⟨π, y, base, k1, k2⟩ := hb
      exact h2.ok.live_lt k1 k2
    · simp only [if_true] at hlt
      exact (h2.le.imm b ⟨hlt, fun ⟨π, y, base, e1, _⟩ => by simp [yag, sget] at e1, fun h => h⟩).1.2.1 hb
/-- A contract that reads, at roots that are given away. -/
theorem Reads.upd {P : Program} {f : FuncId} {s0 : yao} {args args' : List AV} {r : AV} (h : Reads P f true args' r) (ha : args.map (vw s0 5) = args') : Upd P f s0 args (fun _ => r) (fun _ => []) := by
  subst ha
  intro c B k ρ w F us _ _ _ hst hl hrel
  have hargs : ∀ i, i < (args.map (vw s0 5)).length → RelP (immF w fun _ => False) w ((args.map (vw s0 5)).getD i .any) (us.getD i undef) := fun i hi => by
    rw [List.length_map] at hi
    rw [ybs (vw s0 5) _ _ .any _ hi]
    exact yg2 hst (fun b hb _ => ⟨hb, fun e => e⟩) 5 _ _ (hrel i hi)
  refine (h w (fun _ => False) us (fun _ h => h.elim) (hst.gl.mono fun b hb => ⟨⟨hb.1, fun e => e⟩, rfl⟩) (by simpa using hl) hargs).mono fun e w' ⟨u, h1, h2, h3⟩ => ⟨u, ρ, h1, ?_, ?_⟩
  · exact hst.goes_grow (s' := []) (fun id R e => by simp [sget] at e) (fun g hg => .inl hg) h2
  · refine .pure _ _ (h3.mono fun b hb => ⟨⟨hb.1, fun ⟨π, y, base, e1, _⟩ => by simp [yag, sget] at e1, fun hf => ?_⟩, rfl⟩)
    simp only [if_true] at hb
    exact hb.2 (hst.apart b hf).1
end Go.AM

namespace Go.Proofs.W.M
open Go.AM Go
set_option maxRecDepth 100000
set_option maxHeartbeats 2000000
theorem pairs_r {n : Nat} (hn : n ≤ 512) (X Y : List (List AV)) (L : List Int) (hL : L.length = n) : Reads Tryd.prog 83 true [.rptr [.rsl 1 X, .rsl 1 (ints L), .rsl 1 Y]] (.rsl 2 ((prsL L n).map ya6)) := by
 refine Reads.bodyF (rs := [.tmp 2]) Tryd.func83 rfl Tryd.ntmps83 rfl (by simp) ?_
 generalize hQr : retQ _ _ _ = Qr
 refine AW.seq fun K1 hK1 => ?_
 refine AW.regionK 0 (fun _ => none) [0] [] ?_
 simp only [go_sem, reduceIte, reduceCtorEq, zA, zM, zE, zL, zD, zS, zP, zB, zI, zR, yac, hL]
 repeat with_reducible refine cj ?_ ?_
 all_goals try first | omega
 refine hK1 _ _ _ ?_; clear hK1
 refine AW.seq fun K2 hK2 => ?_
 refine AW.regionK 0 (fun _ => none) [0, 3] [] ?_
 simp only [go_sem, reduceIte, reduceCtorEq, zA, zM, zE, zL, zD, zS, zP, zB, zI, zR, yac, hL]
 repeat with_reducible refine cj ?_ ?_
 all_goals try first | omega
 refine hK2 _ _ _ ?_; clear hK2
 refine AW.seq fun K3 hK3 => ?_
 refine AW.seq fun K4 hK4 => ?_
 refine AW.regionK 0 (fun _ => none) [3, 9, 10, 11] [] ?_
 simp only [go_sem, reduceIte, reduceCtorEq, zA, zM, zE, zL, zD, zS, zP, zB, zI, zR, yac, hL]
 repeat with_reducible refine cj ?_ ?_
 all_goals try first | omega
 refine hK4 _ _ _ ?_; clear hK4
 refine AW.block ?_
 refine AW.nilOwn 3 200 2 (by simp only [go_sem, reduceIte, zE]) ?_
 refine AW.keep [3, 9, 10, 11] [200] ?_
 simp only [go_sem, reduceIte, zE]
 refine AW.loopE (fun mm ee ss kk => ∃ (j g v : Nat), n - j = mm ∧ ee = [(3, .sl ⟨200, g, none⟩ 0 (prsL L j).length none), (9, .rsl 1 (ints L)), (10, .int .i64 n), (11, .int .i64 (j : Nat))] ∧ ss = [(200, some ⟨g, v, 2, (prsL L j).map ya6⟩)] ∧ (j ≤ n)) ?_ ?_
 ·refine ⟨_, 0, ?_, ?_, rfl, ?henv, ?hstore, ?hst⟩
  case henv =>
   repeat' (first | rfl | refine yaa ?_ ?_ | refine yad ?_ ?_ ?_ ?_ | refine yah ?_ | refine yae ?_ | refine yai ?_ | refine yaj ?_ | refine yan ?_ ?_ ?_ | refine yak ?_ ?_ ?_ | refine yal ?_ | refine yaf ?_ ?_ | refine yab ?_ ?_)
   all_goals (first | (simp; done) | omega | (simp; omega))
  case hstore =>
   repeat' (first | rfl | refine yaa ?_ ?_ | refine yad ?_ ?_ ?_ ?_ | refine yah ?_ | refine yae ?_ | refine yai ?_ | refine yaj ?_ | refine yan ?_ ?_ ?_ | refine yak ?_ ?_ ?_ | refine yal ?_ | refine yaf ?_ ?_ | refine yab ?_ ?_)
   all_goals (first | (simp; done) | omega | (simp; omega))
  case hst =>
   first | trivial | omega | (simp; done) | (simp; omega)
 rintro mm ee ss kk ⟨j, g, v, rfl, rfl, rfl, hI⟩
 generalize hQl1 : ybd _ _ = Ql1
 refine AW.seq fun K5 hK5 => ?_
 refine AW.regionK 0 (fun _ => none) [3, 9, 10, 11, 12] [200] ?_
 simp only [go_sem, reduceIte, reduceCtorEq, zA, zM, zE, zL, zD, zS, zP, zB, zI, zR, yac, hL]
 repeat with_reducible refine cj ?_ ?_
 all_goals try first | omega
 refine hK5 _ _ _ ?_; clear hK5
 refine AW.seq fun K6 hK6 => ?_
 refine AW.cond rfl (by simp only [go_sem, reduceIte, reduceCtorEq, zA, zM, zE, zL, zD, zS, zP, zB, zI, zR]) ?_ ?_
 ·intro hb
  try simp only [hB, decide_eq_true_eq, decide_eq_false_iff_not] at hb
  have hgl := ybv (l := L) (i := j) (by omega)
  have hsu := prsL_succ L j
  have hle := yrp L j
  have htk : ((prsL L j).map ya6).take (prsL L j).length = (prsL L j).map ya6 := List.take_of_length_le (by simp)
  generalize hP : prsL L j = P at *
  refine AW.skip ?_
  refine hK6 _ _ _ ?_; clear hK6
  refine AW.seq fun K7 hK7 => ?_
  refine AW.block ?_
  refine AW.seq fun K8 hK8 => ?_
  refine AW.regionK 0 (fun _ => none) [3, 4, 5, 9, 10, 11] [200] ?_
  simp only [go_sem, reduceIte, reduceCtorEq, zA, zM, zE, zL, zD, zS, zP, zB, zI, zR, yac, hL, hgl]
  repeat with_reducible refine cj ?_ ?_
  all_goals try first | omega
  refine hK8 _ _ _ ?_; clear hK8
  refine AW.seq fun K9 hK9 => ?_
  refine AW.regionK 0 (fun _ => none) [3, 4, 5, 9, 10, 11, 17] [200] ?_
  simp only [go_sem, reduceIte, reduceCtorEq, zA, zM, zE, zL, zD, zS, zP, zB, zI, zR, yac, hL]
  repeat with_reducible refine cj ?_ ?_
  all_goals try first | omega
  refine hK9 _ _ _ ?_; clear hK9
  refine AW.cond rfl (by simp only [go_sem, reduceIte, reduceCtorEq, zA, zM, zE, zL, zD, zS, zP, zB, zI, zR]) ?_ ?_
  ·intro hb
   try simp only [hB, decide_eq_true_eq, decide_eq_false_iff_not] at hb
   rw [if_pos hb] at hsu
   refine AW.regionK 0 (fun _ => none) [3, 9, 10, 11] [200] ?_
   simp only [go_sem, reduceIte, reduceCtorEq, zA, zM, zE, zL, zD, zS, zP, zB, zI, zR, yac, hL, htk, yhi]
   repeat with_reducible refine cj ?_ ?_
   all_goals try first | omega | (simp [scP, ybi]; done) | exact ybe _ | exact ybj _ | exact ybf _
   refine hK7 _ _ _ ?_; clear hK7
   refine AW.regionK 0 (fun _ => none) [3, 9, 10, 11] [200] ?_
   simp only [go_sem, reduceIte, reduceCtorEq, zA, zM, zE, zL, zD, zS, zP, zB, zI, zR, yac, hL]
   repeat with_reducible refine cj ?_ ?_
   all_goals try first | omega
   rw [← hQl1]
   change Exists _
   refine ⟨_, ?hm, j + 1, ?_, ?_, rfl, ?henv, ?hstore, ?hst⟩
   case henv =>
    repeat' (first | rfl | refine yaa ?_ ?_ | refine yad ?_ ?_ ?_ ?_ | refine yah ?_ | refine yae ?_ | refine yai ?_ | refine yaj ?_ | refine yan ?_ ?_ ?_ | refine yak ?_ ?_ ?_ | refine yal ?_ | refine yaf ?_ ?_ | refine yab ?_ ?_)
    all_goals (rw [hsu]; try simp)
   case hstore =>
    repeat' (first | rfl | refine yaa ?_ ?_ | refine yad ?_ ?_ ?_ ?_ | refine yah ?_ | refine yae ?_ | refine yai ?_ | refine yaj ?_ | refine yan ?_ ?_ ?_ | refine yak ?_ ?_ ?_ | refine yal ?_ | refine yaf ?_ ?_ | refine yab ?_ ?_)
    all_goals (rw [hsu])
   case hst =>
    first | trivial | omega | (simp; done) | (simp; omega)
   case hm => omega
  ·intro hb
   try simp only [hB, decide_eq_true_eq, decide_eq_false_iff_not] at hb
   rw [if_neg (by omega)] at hsu
   refine AW.skip ?_
   refine hK7 _ _ _ ?_; clear hK7
   refine AW.regionK 0 (fun _ => none) [3, 9, 10, 11] [200] ?_
   simp only [go_sem, reduceIte, reduceCtorEq, zA, zM, zE, zL, zD, zS, zP, zB, zI, zR, yac, hL]
   repeat with_reducible refine cj ?_ ?_
   all_goals try first | omega
   rw [← hQl1]
   change Exists _
   refine ⟨_, ?hm, j + 1, ?_, ?_, rfl, ?henv, ?hstore, ?hst⟩
   case henv =>
    repeat' (first | rfl | refine yaa ?_ ?_ | refine yad ?_ ?_ ?_ ?_ | refine yah ?_ | refine yae ?_ | refine yai ?_ | refine yaj ?_ | refine yan ?_ ?_ ?_ | refine yak ?_ ?_ ?_ | refine yal ?_ | refine yaf ?_ ?_ | refine yab ?_ ?_)
    all_goals (rw [hsu]; try simp)
   case hstore =>
    repeat' (first | rfl | refine yaa ?_ ?_ | refine yad ?_ ?_ ?_ ?_ | refine yah ?_ | refine yae ?_ | refine yai ?_ | refine yaj ?_ | refine yan ?_ ?_ ?_ | refine yak ?_ ?_ ?_ | refine yal ?_ | refine yaf ?_ ?_ | refine yab ?_ ?_)
    all_goals (rw [hsu])
   case hst =>
    first | trivial | omega | (simp; done) | (simp; omega)
   case hm => omega
 ·intro hb
  try simp only [hB, decide_eq_true_eq, decide_eq_false_iff_not] at hb
  have hj : j = n := by omega
  subst hj
  refine AW.exit ?_
  rw [← hQl1]
  refine hK3 _ _ _ ?_; clear hK3
  refine AW.seq fun K10 hK10 => ?_
  refine AW.regionK 0 (fun _ => none) [2] [200] ?_
  simp only [go_sem, reduceIte, reduceCtorEq, zA, zM, zE, zL, zD, zS, zP, zB, zI, zR, yac, hL]
  repeat with_reducible refine cj ?_ ?_
  all_goals try first | omega
  refine hK10 _ _ _ ?_; clear hK10
  refine AW.ret ?_
  rw [← hQr]
  simp only [go_sem, reduceIte, reduceCtorEq, zA, zM, zE, zL, zD, zS, zP, zB, zI, zR, yac, hL]
  exact Wk.of_eq (by rw [List.take_of_length_le (by simp)]; simp [ya6, yg8])
/-- The pairs that Max answers. -/
def maxP (n m : Nat) (E : List (Int × Int)) : List (Int × Int) := prsL (maxLR (nbOf n E) n m n).1 n
theorem max_good {n m : Nat} {E : List (Int × Int)} (hv : yhr n m E = true) : Reads Tryd.prog 57 false [.int .i64 n, .int .i64 m, .rsl 2 (E.map ya6)] (.tup [.rsl 2 ((maxP n m E).map ya6), .int .i64 0]) := by
 have hv' := hv
 simp only [yhr, ykm, Bool.and_eq_true, decide_eq_true_eq, List.all_eq_true] at hv'
 obtain ⟨⟨⟨⟨⟨q1, q2⟩, q3⟩, q4⟩, q5⟩, q6, q7⟩ := hv'
 have hvr := mvalid_r n m E (by omega)
 rw [hv] at hvr
 have hmx := maximum_u (n := n) (m := m) (by omega) (by omega) q6 q5
 have hok := yml (n := n) (m := m) (yf4 n E) (ymk fun e he => by have := edgeIn_iff.1 (q6 e he); omega) n (Nat.le_refl _)
 have hpr := pairs_r (n := n) (by omega) (nbR (nbOf n E)) (ints (maxLR (nbOf n E) n m n).2) (maxLR (nbOf n E) n m n).1 hok.hL.1
 unfold maxP
 have hLn := hok.hL.1
 have hRm := hok.hR.1
 generalize maxLR (nbOf n E) n m n = x at *
 obtain ⟨L, R⟩ := x
 unfold yb9 at hmx
 simp only at hmx hpr hLn hRm ⊢
 generalize nbR (nbOf n E) = X at *
 have htL : (ints L).take n = ints L := List.take_of_length_le (by rw [yac]; omega)
 have htR : (ints R).take m = ints R := List.take_of_length_le (by rw [yac]; omega)
 refine Reads.body (rs := [.tmp 6, .tmp 7]) Tryd.func57 rfl Tryd.ntmps57 rfl (by simp) ?_
 generalize hQr : retQ _ _ _ = Qr
 refine AW.seq fun K1 hK1 => ?_
 refine AW.regionK 0 (fun _ => none) [0, 1, 2] [] ?_
 simp only [go_sem, reduceIte, reduceCtorEq, zA, zM, zE, zL, zD, zS, zP, zB, zI, zR]
 repeat with_reducible refine cj ?_ ?_
 all_goals try first | omega
 refine hK1 _ _ _ ?_; clear hK1
 refine AW.seq fun K2 hK2 => ?_
 refine AW.seq fun K3 hK3 => ?_
 refine AW.regionK 0 (fun ii => if ii = 3 then some (.reads false (.bool true)) else none) [0, 1, 2, 12] [] ?_
 simp only [go_sem, reduceIte, reduceCtorEq, zA, zM, zE, zL, zD, zS, zP, zB, zI, zR]
 repeat with_reducible refine cj ?_ ?_
 all_goals try first | (exact hvr) | omega | exact ent (by kernel_rfl)
 refine hK3 _ _ _ ?_; clear hK3
 refine AW.cond rfl (by simp only [go_sem, reduceIte, reduceCtorEq, zA, zM, zE, zL, zD, zS, zP, zB, zI, zR]) ?_ ?_
 ·intro hb
  try simp only [hB, decide_eq_true_eq, decide_eq_false_iff_not] at hb
  exact absurd hb (by simp)
 ·intro hb
  try simp only [hB, decide_eq_true_eq, decide_eq_false_iff_not] at hb
  refine AW.skip ?_
  refine hK2 _ _ _ ?_; clear hK2
  refine AW.seq fun K4 hK4 => ?_
  refine AW.regionK 0 (fun ii => if ii = 3 then some (.upd [] (fun k => [(0, some ⟨k, k, 3, [[.rsl 1 X, .sl ⟨1, k, none⟩ 0 n none, .sl ⟨2, k, none⟩ 0 m none]]⟩), (1, some ⟨k, k, 1, ints L⟩), (2, some ⟨k, k, 1, ints R⟩)]) (fun k => .ptr ⟨0, k, none⟩ 0 0)) else if ii = 4 then some (.upd [16, 1016, 2016] (fun _ => []) (fun _ => .rsl 2 ((prsL L n).map ya6))) else none) [6, 7] [] ?_
  simp only [go_sem, reduceIte, reduceCtorEq, zA, zM, zE, zL, zD, zS, zP, zB, zI, zR]
  repeat with_reducible refine cj ?_ ?_
  all_goals try first | (first | exact hmx | exact hpr.upd (by simp only [List.map_cons, List.map_nil, go_sem, reduceIte, zE, htL, htR, yps])) | omega | exact ent (by kernel_rfl)
  refine hK4 _ _ _ ?_; clear hK4
  refine AW.ret ?_
  rw [← hQr]
  simp only [go_sem, reduceIte, reduceCtorEq, zA, zM, zE, zL, zD, zS, zP, zB, zI, zR]
  exact Wk.refl _
end Go.Proofs.W.M

/- What the search for an alternating path does to a matching. -/
namespace Go.AM
def gi (l : List Int) (i : Nat) : Int := l.getD i (-1)
theorem yjc {l : List Int} {i : Nat} (h : i < l.length) : l.getD i 0 = gi l i := by
  simp [gi, List.getD_eq_getElem?_getD, h]
theorem ybn (l : List Int) (i k : Nat) (x : Int) : gi (l.set i x) k = if i = k ∧ i < l.length then x else gi l k := by
  unfold gi
  by_cases h : i = k
  · subst h
    by_cases h2 : i < l.length
    · rw [Go.AM.getD_set_eq h2, if_pos ⟨rfl, h2⟩]
    · rw [List.set_eq_of_length_le (by omega), if_neg (by omega)]
  · rw [Go.AM.getD_set_ne (by omega), if_neg (by omega)]
theorem yrt {l : List Int} {i : Nat} (h : i < l.length) : gi l i ∈ l := yb1 h _
def sg (s : List Bool) (r : Nat) : Prop := s.getD r false = true
theorem ysu (s : List Bool) (i k : Nat) (h : i < s.length) : sg (s.set i true) k ↔ i = k ∨ sg s k := by
  unfold sg
  by_cases e : i = k
  · subst e; rw [Go.AM.getD_set_eq h]; simp
  · rw [Go.AM.getD_set_ne (by omega)]; simp [e]
abbrev nbl (nb : List (List Int)) (l : Nat) : List Int := nb.getD l []
def Cn (L R : List Int) : Prop := ∀ l r : Nat, gi L l = (r : Int) ↔ gi R r = (l : Int)
def Ed (nb : List (List Int)) (L : List Int) : Prop := ∀ l, 0 ≤ gi L l → gi L l ∈ nbl nb l
structure Suc (nb : List (List Int)) (s : List Bool) (L R : List Int) (l : Nat) (L' R' : List Int) : Prop where
  p1 : ∀ l' r : Nat, l' ≠ l → (gi L' l' = (r : Int) ↔ gi R' r = (l' : Int))
  p2 : ∃ q : Nat, ¬ sg s q ∧ (q : Int) ∈ nbl nb l ∧ gi L' l = q ∧ gi R' q = l ∧ ∀ r : Nat, gi R' r = l → r = q ∨ gi R r = l
  p3 : ∀ r, sg s r → gi R' r = gi R r
  p4 : ∀ l', l' ≠ l → (∀ r : Nat, gi R r = (l' : Int) → sg s r) → gi L' l' = gi L l'
  p5 : ∀ l', l' ≠ l → (0 ≤ gi L l' ↔ 0 ≤ gi L' l')
  p6 : ∀ r, 0 ≤ gi R r → 0 ≤ gi R' r
  p7 : Ed nb L'
structure Fai (nb : List (List Int)) (R : List Int) (row : List Int) (s s' : List Bool) : Prop where
  q1 : ∀ r, sg s r → sg s' r
  q2 : ∀ r, sg s' r → sg s r ∨ (0 ≤ gi R r ∧ ∀ x ∈ nbl nb (gi R r).toNat, sg s' x.toNat)
  q3 : ∀ x ∈ row, sg s' x.toNat
theorem Suc.mono {nb : List (List Int)} {s s2 : List Bool} {L R L' R' : List Int} {l : Nat} (h : Suc nb s2 L R l L' R') (hs : ∀ r, sg s r → sg s2 r) : Suc nb s L R l L' R' :=
  ⟨h.p1, by obtain ⟨q, h1, h2⟩ := h.p2; exact ⟨q, fun h => h1 (hs q h), h2⟩, fun r hr => h.p3 r (hs r hr), fun l' hl hr => h.p4 l' hl fun r e => hs r (hr r e), h.p5, h.p6, h.p7⟩
def FS (n m : Nat) (nb : List (List Int)) (fu : Nat) (f : Int → List Bool → List Int → List Int → Bool × MSt) : Prop :=
  ∀ (l : Nat) s L R b s' L' R', uns s < fu → l < n → MOk n m nb s L R → Cn L R → Ed nb L → (∀ r : Nat, gi R r = (l : Int) → sg s r) → f (l : Int) s L R = (b, s', L', R') →
    (b = true → Suc nb s L R l L' R') ∧ (b = false → L' = L ∧ R' = R ∧ Fai nb R (nbl nb l) s s')
theorem ymm {n m : Nat} {nb : List (List Int)} {fu : Nat} {f : Int → List Bool → List Int → List Int → Bool × MSt} (hf : FS n m nb fu f) (hk : ∀ l s L R, l < (n : Int) → MOk n m nb s L R → yqr n m nb s (f l s L R)) {l : Nat} (hl : l < n) :
    ∀ (rs : List Int) (s : List Bool) (L R : List Int) (b : Bool) (s' : List Bool) (L' R' : List Int), uns s < fu + 1 → MOk n m nb s L R → Cn L R → Ed nb L → (∀ r : Nat, gi R r = (l : Int) → sg s r) → (∀ r ∈ rs, r ∈ nbl nb l) → mgo f (l : Int) rs s L R = (b, s', L', R') →
    (b = true → Suc nb s L R l L' R') ∧ (b = false → L' = L ∧ R' = R ∧ Fai nb R rs s s')
  | [], s, L, R, b, s', L', R', _, _, _, _, _, _, h => by
    simp only [mgo, Prod.mk.injEq] at h
    obtain ⟨rfl, rfl, rfl, rfl⟩ := h
    exact ⟨fun h => (by cases h), fun _ => ⟨rfl, rfl, ⟨fun r h => h, fun r h => .inl h, fun x hx => by cases hx⟩⟩⟩
  | r :: rs, s, L, R, b, s', L', R', hu, hok, hC, hE, hst, hrs, h => by
    have hrs2 : ∀ r ∈ rs, r ∈ nbl nb l := fun x hx => hrs x (by simp [hx])
    have hrn := hrs r (by simp)
    have hrm : 0 ≤ r ∧ r < (m : Int) := by
      refine hok.hnb.2 (nbl nb l) (yb1 (by rw [hok.hnb.1]; exact hl) []) r hrn
    obtain ⟨q, rfl⟩ : ∃ q : Nat, r = (q : Int) := ⟨r.toNat, by omega⟩
    have hqm : q < m := by omega
    have hsl := hok.hs
    have hRl := hok.hR.1
    have hLl := hok.hL.1
    unfold mgo at h
    simp only [Int.toNat_natCast] at h
    by_cases hs : s.getD q false = true
    · rw [if_pos hs] at h
      obtain ⟨h1, h2⟩ := ymm hf hk hl rs s L R b s' L' R' hu hok hC hE hst hrs2 h
      refine ⟨h1, fun hb => ?_⟩
      obtain ⟨e1, e2, h3⟩ := h2 hb
      refine ⟨e1, e2, ⟨h3.q1, h3.q2, fun x hx => ?_⟩⟩
      rcases List.mem_cons.1 hx with rfl | hx
      · exact h3.q1 _ hs
      · exact h3.q3 x hx
    · rw [if_neg hs] at h
      have hns : ¬ sg s q := hs
      have hmk := yf2 hk hrm hok (by rw [Int.toNat_natCast]; simpa using hs)
      have hss := ysu s q
      unfold ykg at h hmk
      rw [Int.toNat_natCast, yjc (by omega)] at h hmk
      by_cases hR : gi R q < 0
      · rw [if_pos hR] at h
        simp only [Prod.mk.injEq] at h
        obtain ⟨rfl, rfl, rfl, rfl⟩ := h
        refine ⟨fun _ => ?_, fun h => by cases h⟩
        try simp only [Int.toNat_natCast]
        refine ⟨fun l' r hl' => ?_, ⟨q, hns, hrn, ?_, ?_, fun r hr => ?_⟩, fun r hr => ?_, fun l' hl' _ => ?_, fun l' hl' => ?_, fun r hr => ?_, fun l' hl' => ?_⟩
        · rw [ybn, if_neg (by omega), ybn]
          by_cases e : q = r
          · subst e
            rw [if_pos (by omega)]
            have := hC l' q
            constructor <;> intro h2
            · have := this.1 h2; omega
            · omega
          · rw [if_neg (by omega)]; exact hC l' r
        · rw [ybn, if_pos (by omega)]
        · rw [ybn, if_pos (by omega)]
        · rw [ybn] at hr
          by_cases e : q = r
          · exact .inl e.symm
          · rw [if_neg (by omega)] at hr; exact .inr hr
        · rw [ybn, if_neg (show ¬ (q = r ∧ _) from fun e => hns (e.1 ▸ hr))]
        · rw [ybn, if_neg (by omega)]
        · rw [ybn, if_neg (by omega)]
        · rw [ybn]; split <;> omega
        · rw [ybn] at hl' ⊢
          split at hl'
          · rename_i e; rw [if_pos e, ← e.1]; exact hrn
          · rename_i e; rw [if_neg e]; exact hE l' hl'
      · rw [if_neg hR] at h hmk
        obtain ⟨l2, hl2⟩ : ∃ l2 : Nat, gi R q = (l2 : Int) := ⟨(gi R q).toNat, by omega⟩
        have hl2n : l2 < n := by
          have := hok.hR.2 (gi R q) (yrt (by omega)); omega
        rw [hl2] at h hmk
        have hLl2 := (hC l2 q).2 hl2
        have huq : ∀ r : Nat, gi R r = (l2 : Int) → r = q := fun r hr => by
          have := (hC l2 r).2 hr; omega
        have hne : l2 ≠ l := fun e => hns (hst q (by rw [hl2, e]))
        have hu2 := yl6 (s := s) (i := q) (by omega) (by simpa using hs)
        obtain ⟨⟨b2, s2, L2, R2⟩, hx⟩ : ∃ x, f (l2 : Int) (s.set q true) L R = x := ⟨_, rfl⟩
        have hsp := hf l2 (s.set q true) L R b2 s2 L2 R2 (by omega) hl2n (hok.seen q) hC hE (fun r hr => by rw [huq r hr]; exact (hss q (by omega)).2 (.inl rfl)) hx
        rw [hx] at h hmk
        simp only at hmk
        cases b2 with
        | true =>
          simp only [Prod.mk.injEq, Int.toNat_natCast] at h
          obtain ⟨rfl, rfl, rfl, rfl⟩ := h
          refine ⟨fun _ => ?_, fun h => by cases h⟩
          have hS := hsp.1 rfl
          have hR2l := hmk.1.hR.1
          have hL2l := hmk.1.hL.1
          obtain ⟨z, hz1, hz2, hz3, hz4, hz5⟩ := hS.p2
          have hzq : z ≠ q := fun e => hz1 ((hss z (by omega)).2 (.inl e.symm))
          have hRq : gi R2 q = (l2 : Int) := by rw [hS.p3 q ((hss q (by omega)).2 (.inl rfl)), hl2]
          have hLk : gi L2 l = gi L l := hS.p4 l (fun e => hne e.symm) fun r hr => (hss r (by omega)).2 (.inr (hst r hr))
          refine ⟨fun l' r hl' => ?_, ⟨q, hns, hrn, ?_, ?_, fun r hr => ?_⟩, fun r hr => ?_, fun l' hl' hr => ?_, fun l' hl' => ?_, fun r hr => ?_, fun l' hl' => ?_⟩
          · rw [ybn, if_neg (by omega), ybn]
            by_cases e2 : l' = l2
            · subst e2
              by_cases e : q = r
              · subst e
                rw [if_pos (by omega)]
                constructor <;> intro h2 <;> omega
              · rw [if_neg (by omega)]
                constructor
                · intro h2
                  have : r = z := by omega
                  subst this; exact hz4
                · intro h2
                  rcases hz5 r h2 with h3 | h3
                  · subst h3; exact hz3
                  · exact absurd (huq r h3).symm e
            · have h1 := hS.p1 l' r e2
              by_cases e : q = r
              · subst e
                rw [if_pos (by omega)]
                constructor <;> intro h2
                · have := h1.1 h2; omega
                · omega
              · rw [if_neg (by omega)]; exact h1
          · rw [ybn, if_pos (by omega)]
          · rw [ybn, if_pos (by omega)]
          · rw [ybn] at hr
            by_cases e : q = r
            · exact .inl e.symm
            · rw [if_neg (by omega)] at hr
              have h1 := (hS.p1 l r (fun e => hne e.symm)).2 hr
              rw [hLk] at h1
              exact .inr ((hC l r).1 h1)
          · rw [ybn, if_neg (show ¬ (q = r ∧ _) from fun e => hns (e.1 ▸ hr))]
            exact hS.p3 r ((hss r (by omega)).2 (.inr hr))
          · rw [ybn, if_neg (by omega)]
            by_cases e2 : l' = l2
            · subst e2
              exact absurd (hr q hl2) hns
            · exact hS.p4 l' e2 fun r hr2 => (hss r (by omega)).2 (.inr (hr r hr2))
          · rw [ybn, if_neg (by omega)]
            by_cases e2 : l' = l2
            · subst e2; omega
            · exact hS.p5 l' e2
          · rw [ybn]; split
            · omega
            · exact hS.p6 r hr
          · rw [ybn] at hl' ⊢
            split at hl'
            · rename_i e; rw [if_pos e, ← e.1]; exact hrn
            · rename_i e; rw [if_neg e]; exact hS.p7 l' hl'
        | false =>
          simp only at h
          obtain ⟨rfl, rfl, hF⟩ := hsp.2 rfl
          have hm1 : ∀ r, sg s r → sg s2 r := fun r hr => hF.q1 r ((hss r (by omega)).2 (.inr hr))
          have hsq : sg s2 q := hF.q1 q ((hss q (by omega)).2 (.inl rfl))
          obtain ⟨h1, h2⟩ := ymm hf hk hl rs s2 L2 R2 b s' L' R' (by omega) hmk.1 hC hE (fun r hr => hm1 r (hst r hr)) hrs2 h
          refine ⟨fun hb => (h1 hb).mono hm1, fun hb => ?_⟩
          obtain ⟨e1, e2, h3⟩ := h2 hb
          refine ⟨e1, e2, ⟨fun r hr => h3.q1 r (hm1 r hr), fun r hr => ?_, fun x hx => ?_⟩⟩
          · rcases h3.q2 r hr with h4 | h4
            · rcases hF.q2 r h4 with h5 | ⟨h5, h6⟩
              · rcases (hss r (by omega)).1 h5 with h7 | h7
                · subst h7
                  refine .inr ⟨by omega, fun x hx => h3.q1 _ (hF.q3 x ?_)⟩
                  rw [hl2, Int.toNat_natCast] at hx
                  exact hx
                · exact .inl h7
              · exact .inr ⟨h5, fun x hx => h3.q1 _ (h6 x hx)⟩
            · exact .inr h4
          · rcases List.mem_cons.1 hx with rfl | hx
            · exact h3.q1 _ (by rw [Int.toNat_natCast]; exact hsq)
            · exact h3.q3 x hx
theorem yn6 {n m : Nat} {nb : List (List Int)} : ∀ fu, FS n m nb fu (mtry nb fu)
  | 0 => fun l s L R b s' L' R' hu => by omega
  | fu + 1 => fun l s L R b s' L' R' hu hl hok hC hE hst h => by
    unfold mtry at h
    rw [Int.toNat_natCast] at h
    exact ymm (yn6 fu) (fun l s L R => yef fu l s L R) hl _ s L R b s' L' R' hu hok hC hE hst (fun r hr => hr) h

/-- A set of right nodes that no alternating path leaves. -/
def Tcl (nb : List (List Int)) (R : List Int) (T : Nat → Prop) : Prop := ∀ r, T r → 0 ≤ gi R r ∧ ∀ x ∈ nbl nb (gi R r).toNat, T x.toNat
def TS (n m : Nat) (nb : List (List Int)) (f : Int → List Bool → List Int → List Int → Bool × MSt) (T : Nat → Prop) : Prop :=
  ∀ (l : Nat) s L R b s' L' R', l < n → MOk n m nb s L R → Tcl nb R T → f (l : Int) s L R = (b, s', L', R') → ((∀ r ∈ nbl nb l, T r.toNat) → b = false) ∧ ∀ r, T r → gi R' r = gi R r
theorem Tcl.same {nb : List (List Int)} {R R' : List Int} {T : Nat → Prop} (h : Tcl nb R T) (e : ∀ r, T r → gi R' r = gi R r) : Tcl nb R' T := fun r hr => by
  rw [e r hr]; exact h r hr
theorem ys4 {n m : Nat} {nb : List (List Int)} {f : Int → List Bool → List Int → List Int → Bool × MSt} {T : Nat → Prop} (hf : TS n m nb f T) (hk : ∀ l s L R, l < (n : Int) → MOk n m nb s L R → yqr n m nb s (f l s L R)) {l : Nat} (hl : l < n) :
    ∀ (rs : List Int) (s : List Bool) (L R : List Int) (b : Bool) (s' : List Bool) (L' R' : List Int), MOk n m nb s L R → Tcl nb R T → (∀ r ∈ rs, r ∈ nbl nb l) → mgo f (l : Int) rs s L R = (b, s', L', R') →
    ((∀ r ∈ rs, T r.toNat) → b = false) ∧ ∀ r, T r → gi R' r = gi R r
  | [], s, L, R, b, s', L', R', _, _, _, h => by
    simp only [mgo, Prod.mk.injEq] at h
    obtain ⟨rfl, rfl, rfl, rfl⟩ := h
    exact ⟨fun _ => rfl, fun _ _ => rfl⟩
  | r :: rs, s, L, R, b, s', L', R', hok, hT, hrs, h => by
    have hrs2 : ∀ r ∈ rs, r ∈ nbl nb l := fun x hx => hrs x (by simp [hx])
    have hrn := hrs r (by simp)
    have hrm : 0 ≤ r ∧ r < (m : Int) := hok.hnb.2 (nbl nb l) (yb1 (by rw [hok.hnb.1]; exact hl) []) r hrn
    obtain ⟨q, rfl⟩ : ∃ q : Nat, r = (q : Int) := ⟨r.toNat, by omega⟩
    have hRl := hok.hR.1
    unfold mgo at h
    simp only [Int.toNat_natCast] at h
    by_cases hs : s.getD q false = true
    · rw [if_pos hs] at h
      obtain ⟨h1, h2⟩ := ys4 hf hk hl rs s L R b s' L' R' hok hT hrs2 h
      exact ⟨fun ha => h1 fun x hx => ha x (by simp [hx]), h2⟩
    · rw [if_neg hs] at h
      have hmk := yf2 hk hrm hok (by rw [Int.toNat_natCast]; simpa using hs)
      unfold ykg at h hmk
      rw [Int.toNat_natCast, yjc (by omega)] at h hmk
      by_cases hR : gi R q < 0
      · rw [if_pos hR] at h
        simp only [Prod.mk.injEq] at h
        obtain ⟨rfl, rfl, rfl, rfl⟩ := h
        have hnT : ¬ T q := fun hq => by have := (hT q hq).1; omega
        refine ⟨fun ha => absurd (ha (q : Int) (by simp)) (by rw [Int.toNat_natCast]; exact hnT), fun r hr => ?_⟩
        rw [ybn, if_neg (show ¬ (q = r ∧ _) from fun e => hnT (e.1 ▸ hr))]
      · rw [if_neg hR] at h hmk
        obtain ⟨l2, hl2⟩ : ∃ l2 : Nat, gi R q = (l2 : Int) := ⟨(gi R q).toNat, by omega⟩
        have hl2n : l2 < n := by
          have := hok.hR.2 (gi R q) (yrt (by omega)); omega
        rw [hl2] at h hmk
        obtain ⟨⟨b2, s2, L2, R2⟩, hx⟩ : ∃ x, f (l2 : Int) (s.set q true) L R = x := ⟨_, rfl⟩
        have hsp := hf l2 (s.set q true) L R b2 s2 L2 R2 hl2n (hok.seen q) hT hx
        rw [hx] at h hmk
        simp only at hmk
        have hTq : T q → b2 = false := fun hq => hsp.1 (by have := (hT q hq).2; rw [hl2, Int.toNat_natCast] at this; exact this)
        cases b2 with
        | true =>
          simp only [Prod.mk.injEq, Int.toNat_natCast] at h
          obtain ⟨rfl, rfl, rfl, rfl⟩ := h
          have hnT : ¬ T q := fun hq => by cases hTq hq
          refine ⟨fun ha => absurd (ha (q : Int) (by simp)) (by rw [Int.toNat_natCast]; exact hnT), fun r hr => ?_⟩
          rw [ybn, if_neg (show ¬ (q = r ∧ _) from fun e => hnT (e.1 ▸ hr))]
          exact hsp.2 r hr
        | false =>
          simp only at h
          obtain ⟨h1, h2⟩ := ys4 hf hk hl rs s2 L2 R2 b s' L' R' hmk.1 (hT.same hsp.2) hrs2 h
          exact ⟨fun ha => h1 fun x hx => ha x (by simp [hx]), fun r hr => by rw [h2 r hr, hsp.2 r hr]⟩
theorem ysv {n m : Nat} {nb : List (List Int)} (T : Nat → Prop) : ∀ fu, TS n m nb (mtry nb fu) T
  | 0 => fun l s L R b s' L' R' _ _ _ h => by
    simp only [mtry, Prod.mk.injEq] at h
    obtain ⟨rfl, rfl, rfl, rfl⟩ := h
    exact ⟨fun _ => rfl, fun _ _ => rfl⟩
  | fu + 1 => fun l s L R b s' L' R' hl hok hT h => by
    unfold mtry at h
    rw [Int.toNat_natCast] at h
    exact ys4 (ysv T fu) (fun l s L R => yef fu l s L R) hl _ s L R b s' L' R' hok hT (fun r hr => hr) h

/-- A matching in a graph. -/
structure Mch (n m : Nat) (nb : List (List Int)) (L R : List Int) : Prop where
  hL : L.length = n
  hR : R.length = m
  hRn : ∀ r, gi R r < (n : Int)
  hLm : ∀ l, gi L l < (m : Int)
  hC : Cn L R
  hE : Ed nb L
theorem Mch.ok {n m : Nat} {nb : List (List Int)} {L R : List Int} (h : Mch n m nb L R) (h1 : nb.length = n) (h2 : ∀ row ∈ nb, ∀ r ∈ row, 0 ≤ r ∧ r < (m : Int)) : MOk n m nb (List.replicate m false) L R :=
  ⟨⟨h1, h2⟩, by simp, ⟨h.hL, fun x hx => by obtain ⟨i, hi, rfl⟩ := List.getElem_of_mem hx; have := h.hLm i; rw [gi, List.getD_eq_getElem?_getD, List.getElem?_eq_getElem hi] at this; exact this⟩,
   ⟨h.hR, fun x hx => by obtain ⟨i, hi, rfl⟩ := List.getElem_of_mem hx; have := h.hRn i; rw [gi, List.getD_eq_getElem?_getD, List.getElem?_eq_getElem hi] at this; exact this⟩⟩
theorem yp8 {l : List Int} {c : Int} (hc : 0 ≤ c) (h : ∀ x ∈ l, x < c) (i : Nat) : gi l i < c := by
  by_cases hi : i < l.length
  · exact h _ (yrt hi)
  · have : gi l i = -1 := getD_out (by omega) _
    omega
theorem yoz (m r : Nat) : ¬ sg (List.replicate m false) r := by
  unfold sg
  rw [List.getD_eq_getElem?_getD, List.getElem?_replicate]
  split <;> simp
/-- A search from a free left node. -/
theorem mtry_top {n m : Nat} {nb : List (List Int)} (h1 : nb.length = n) (h2 : ∀ row ∈ nb, ∀ r ∈ row, 0 ≤ r ∧ r < (m : Int)) {L R : List Int} (h : Mch n m nb L R) {l : Nat} (hl : l < n) (hfr : gi L l < 0) {b : Bool} {s' : List Bool} {L' R' : List Int}
    (hx : mtry nb (m + 1) (l : Int) (List.replicate m false) L R = (b, s', L', R')) :
    (b = true → Mch n m nb L' R' ∧ (∀ l', 0 ≤ gi L' l' ↔ (0 ≤ gi L l' ∨ l' = l)) ∧ (∀ r, 0 ≤ gi R r → 0 ≤ gi R' r)) ∧
    (b = false → L' = L ∧ R' = R ∧ ∃ T : Nat → Prop, Tcl nb R T ∧ ∀ r ∈ nbl nb l, T r.toNat) ∧
    ∀ T : Nat → Prop, Tcl nb R T → ((∀ r ∈ nbl nb l, T r.toNat) → b = false) ∧ Tcl nb R' T := by
  have hok := h.ok h1 h2
  have hst : ∀ r : Nat, gi R r = (l : Int) → sg (List.replicate m false) r := fun r hr => by
    have := (h.hC l r).2 hr; omega
  have hsp := yn6 (m + 1) l _ L R b s' L' R' (by rw [ycq]; omega) hl hok h.hC h.hE hst hx
  have hkp := (yef (m + 1) (l : Int) _ L R (by omega) hok).1
  rw [hx] at hkp
  simp only at hkp
  refine ⟨fun hb => ?_, fun hb => ?_, fun T hT => ?_⟩
  · have hS := hsp.1 hb
    obtain ⟨q, _, hq2, hq3, hq4, hq5⟩ := hS.p2
    refine ⟨⟨hkp.hL.1, hkp.hR.1, yp8 (by omega) hkp.hR.2, yp8 (by omega) hkp.hL.2, fun l' r => ?_, hS.p7⟩, fun l' => ?_, hS.p6⟩
    · by_cases e : l' = l
      · subst e
        constructor
        · intro h3
          have : r = q := by omega
          subst this; exact hq4
        · intro h3
          rcases hq5 r h3 with h4 | h4
          · subst h4; exact hq3
          · have := (h.hC l' r).2 h4; omega
      · exact hS.p1 l' r e
    · by_cases e : l' = l
      · subst e; omega
      · have := hS.p5 l' e
        constructor
        · intro h3; exact .inl (this.2 h3)
        · rintro (h3 | h3)
          · exact this.1 h3
          · exact absurd h3 e
  · obtain ⟨e1, e2, hF⟩ := hsp.2 hb
    refine ⟨e1, e2, fun r => sg s' r, fun r hr => ?_, hF.q3⟩
    rcases hF.q2 r hr with h3 | h3
    · exact absurd h3 (yoz m r)
    · exact h3
  · have hTT := ysv T (m + 1) l _ L R b s' L' R' hl hok hT hx
    exact ⟨hTT.1, hT.same hTT.2⟩
/-- No alternating path leads from a free left node to a free right one. -/
def NoAug (nb : List (List Int)) (n : Nat) (L R : List Int) : Prop := ∃ T : Nat → Prop, Tcl nb R T ∧ ∀ l, l < n → gi L l < 0 → ∀ r ∈ nbl nb l, T r.toNat
theorem yi2 (n i : Nat) : gi (List.replicate n (-1)) i = -1 := by
  unfold gi
  rw [List.getD_eq_getElem?_getD, List.getElem?_replicate]
  split <;> rfl
theorem yn7 (n m : Nat) (nb : List (List Int)) : Mch n m nb (List.replicate n (-1)) (List.replicate m (-1)) :=
  ⟨by simp, by simp, fun r => by rw [yi2]; omega, fun r => by rw [yi2]; omega, fun l r => by rw [yi2, yi2]; omega, fun l h => by rw [yi2] at h; omega⟩
theorem ylh {n m : Nat} {nb : List (List Int)} (h1 : nb.length = n) (h2 : ∀ row ∈ nb, ∀ r ∈ row, 0 ≤ r ∧ r < (m : Int)) : ∀ j, j ≤ n → Mch n m nb (maxLR nb n m j).1 (maxLR nb n m j).2 ∧
    (∀ l, j ≤ l → gi (maxLR nb n m j).1 l < 0) ∧ ∃ T : Nat → Prop, Tcl nb (maxLR nb n m j).2 T ∧ ∀ l, l < j → gi (maxLR nb n m j).1 l < 0 → ∀ r ∈ nbl nb l, T r.toNat
  | 0, _ => ⟨yn7 n m nb, fun l _ => by show gi (List.replicate n (-1)) l < 0; rw [yi2]; omega, fun _ => False, fun _ h => h.elim, fun l h => by omega⟩
  | j + 1, hj => by
    obtain ⟨hM, hfr, T, hT, hTn⟩ := ylh h1 h2 j (by omega)
    obtain ⟨⟨b, s', L', R'⟩, hx⟩ : ∃ x, mtry nb (m + 1) (j : Int) (List.replicate m false) (maxLR nb n m j).1 (maxLR nb n m j).2 = x := ⟨_, rfl⟩
    have hsu : (maxLR nb n m (j + 1)) = (L', R') := by show (mtry nb (m + 1) (j : Int) (List.replicate m false) (maxLR nb n m j).1 (maxLR nb n m j).2).2.2 = _; rw [hx]
    obtain ⟨a1, a2, a3⟩ := mtry_top h1 h2 hM (by omega) (hfr j (Nat.le_refl _)) hx
    rw [hsu]
    cases b with
    | true =>
      obtain ⟨b1, b2, b3⟩ := a1 rfl
      refine ⟨b1, fun l hl => ?_, T, (a3 T hT).2, fun l hl hf => ?_⟩
      · have := b2 l; have := hfr l (by omega); simp only; omega
      · have := b2 l
        simp only at hf
        exact hTn l (by omega) (by omega)
    | false =>
      obtain ⟨e1, e2, T2, c1, c2⟩ := a2 rfl
      subst e1; subst e2
      refine ⟨hM, fun l hl => hfr l (by omega), fun r => T r ∨ T2 r, fun r hr => ?_, fun l hl hf r hr => ?_⟩
      · rcases hr with hr | hr
        · exact ⟨(hT r hr).1, fun x hx => .inl ((hT r hr).2 x hx)⟩
        · exact ⟨(c1 r hr).1, fun x hx => .inr ((c1 r hr).2 x hx)⟩
      · by_cases e : l = j
        · subst e; exact .inr (c2 r hr)
        · exact .inl (hTn l (by omega) hf r hr)
theorem maxLR_max {n m : Nat} {nb : List (List Int)} (h1 : nb.length = n) (h2 : ∀ row ∈ nb, ∀ r ∈ row, 0 ≤ r ∧ r < (m : Int)) : Mch n m nb (maxLR nb n m n).1 (maxLR nb n m n).2 ∧ NoAug nb n (maxLR nb n m n).1 (maxLR nb n m n).2 :=
  let ⟨h, _, T, hT, hn⟩ := ylh h1 h2 n (Nat.le_refl n)
  ⟨h, T, hT, hn⟩
end Go.AM

/- The nodes that alternating paths reach. -/
namespace Go.AM
structure RSt where
  s : List Bool
  l : List Int
  q : List Int
def yqs (R : List Int) (r : Int) (t : RSt) : RSt :=
  if t.s.getD r.toNat false = true then t
  else ⟨t.s.set r.toNat true, if 0 ≤ R.getD r.toNat 0 then t.l ++ [R.getD r.toNat 0] else t.l, t.q ++ [r]⟩
def rrow (R : List Int) : List Int → RSt → RSt
  | [], t => t
  | r :: rs, t => rrow R rs (yqs R r t)
def rrun (nb : List (List Int)) (R : List Int) : Nat → Nat → RSt → RSt
  | 0, _, t => t
  | f + 1, i, t => if i < t.l.length then rrun nb R f (i + 1) (rrow R (nb.getD (t.l.getD i 0).toNat []) t) else t
def frL (L : List Int) (j : Nat) : List Int := ((List.range j).filter fun i => decide (L.getD i 0 < 0)).map fun (i : Nat) => (i : Int)
theorem ysw (L : List Int) (j : Nat) : (frL L j).length ≤ j := by
  unfold frL
  rw [List.length_map]
  have := List.length_filter_le (fun i => decide (L.getD i 0 < 0)) (List.range j)
  simpa using this
theorem yru {L : List Int} {n : Nat} (hn : n ≤ L.length) (x : Int) : x ∈ frL L n ↔ ∃ i : Nat, x = i ∧ i < n ∧ gi L i < 0 := by
  simp only [frL, List.mem_map, List.mem_filter, List.mem_range, decide_eq_true_eq]
  constructor
  · rintro ⟨i, ⟨h1, h2⟩, rfl⟩; exact ⟨i, rfl, h1, by rw [← yjc (by omega)]; exact h2⟩
  · rintro ⟨i, rfl, h1, h2⟩; exact ⟨i, ⟨h1, by rw [yjc (by omega)]; exact h2⟩, rfl⟩
/-- The whole search of the reached nodes. -/
def ykn (nb : List (List Int)) (L R : List Int) (n m : Nat) : RSt := rrun nb R (n + m + 1) 0 ⟨List.replicate m false, frL L n, []⟩

inductive RL (nb : List (List Int)) (n : Nat) (L R : List Int) : Nat → Prop
  | free {l : Nat} : l < n → gi L l < 0 → RL nb n L R l
  | step {l : Nat} {r : Int} {l2 : Nat} : RL nb n L R l → r ∈ nbl nb l → gi R r.toNat = (l2 : Int) → RL nb n L R l2
def RR (nb : List (List Int)) (n : Nat) (L R : List Int) (r : Nat) : Prop := ∃ l, RL nb n L R l ∧ (r : Int) ∈ nbl nb l

/-- What the search keeps. -/
structure RIv (n m : Nat) (nb : List (List Int)) (L R : List Int) (t : RSt) : Prop where
  hs : t.s.length = m
  hl : ∀ x ∈ t.l, ∃ i : Nat, x = i ∧ i < n ∧ RL nb n L R i
  hq : ∀ x ∈ t.q, ∃ r : Nat, x = r ∧ r < m ∧ RR nb n L R r ∧ sg t.s r
  hsq : ∀ r, sg t.s r → (r : Int) ∈ t.q
  hb : ∀ r, sg t.s r → 0 ≤ gi R r → gi R r ∈ t.l
  hfr : ∀ i : Nat, i < n → gi L i < 0 → (i : Int) ∈ t.l
  hlen : t.l.length + uns t.s ≤ n + m
  hlq : t.q.length + uns t.s ≤ m
structure RLe (t u : RSt) : Prop where
  hs : ∀ r, sg t.s r → sg u.s r
  hl : ∃ z, u.l = t.l ++ z
  hu : u.l.length + uns u.s ≤ t.l.length + uns t.s
theorem RLe.refl (t : RSt) : RLe t t := ⟨fun _ h => h, ⟨[], by simp⟩, Nat.le_refl _⟩
theorem RLe.trans {t u v : RSt} (h : RLe t u) (g : RLe u v) : RLe t v :=
  ⟨fun r hr => g.hs r (h.hs r hr), by obtain ⟨a, ha⟩ := h.hl; obtain ⟨b, hb⟩ := g.hl; exact ⟨a ++ b, by rw [hb, ha, List.append_assoc]⟩, Nat.le_trans g.hu h.hu⟩
theorem rstep_iv {n m : Nat} {nb : List (List Int)} {L R : List Int} (hR : R.length = m) (hRn : ∀ r, gi R r < (n : Int)) {t : RSt} (h : RIv n m nb L R t) {l : Nat} (hl : RL nb n L R l) {r : Int} (hr : r ∈ nbl nb l) (hrm : 0 ≤ r ∧ r < (m : Int)) :
    RIv n m nb L R (yqs R r t) ∧ RLe t (yqs R r t) ∧ sg (yqs R r t).s r.toNat := by
  unfold yqs
  obtain ⟨q, rfl⟩ : ∃ q : Nat, r = (q : Int) := ⟨r.toNat, by omega⟩
  rw [Int.toNat_natCast]
  by_cases hs : t.s.getD q false = true
  · rw [if_pos hs]; exact ⟨h, .refl t, hs⟩
  · rw [if_neg hs]
    have hsl := h.hs
    have hss := fun k => ysu t.s q k (by omega)
    have hu := yl6 (s := t.s) (i := q) (by omega) (by simpa using hs)
    have hRR : RR nb n L R q := ⟨l, hl, hr⟩
    have e0 : R.getD q 0 = gi R q := yjc (by omega)
    rw [e0]
    have hlen := h.hlen
    have hlq := h.hlq
    have hsm : ∀ x, x ∈ t.l → x ∈ (if 0 ≤ gi R q then t.l ++ [gi R q] else t.l) := fun x hx => by split <;> simp [hx]
    refine ⟨⟨by simp [hsl], fun x hx => ?_, fun x hx => ?_, fun k hk => ?_, fun k hk hk2 => ?_, fun i hi hi2 => hsm _ (h.hfr i hi hi2), ?_, ?_⟩, ⟨fun k hk => (hss k).2 (.inr hk), ?_, ?_⟩, (hss q).2 (.inl rfl)⟩
    · simp only at hx
      split at hx
      · rename_i h0
        rcases List.mem_append.1 hx with h1 | h1
        · exact h.hl x h1
        · simp only [List.mem_singleton] at h1
          subst h1
          refine ⟨(gi R q).toNat, by omega, by have := hRn q; omega, RL.step hl hr ?_⟩
          rw [Int.toNat_natCast]; omega
      · exact h.hl x hx
    · rcases List.mem_append.1 hx with h1 | h1
      · obtain ⟨r, e, h2, h3, h4⟩ := h.hq x h1
        exact ⟨r, e, h2, h3, (hss r).2 (.inr h4)⟩
      · simp only [List.mem_singleton] at h1
        subst h1
        exact ⟨q, rfl, by omega, hRR, (hss q).2 (.inl rfl)⟩
    · rcases (hss k).1 hk with h1 | h1
      · subst h1; simp
      · exact List.mem_append.2 (.inl (h.hsq k h1))
    · rcases (hss k).1 hk with h1 | h1
      · subst h1; simp only; rw [if_pos hk2]; simp
      · exact hsm _ (h.hb k h1 hk2)
    · simp only; split <;> (try simp only [List.length_append, List.length_cons, List.length_nil]) <;> omega
    · simp only [List.length_append, List.length_cons, List.length_nil]; omega
    · simp only; split
      · exact ⟨[gi R q], rfl⟩
      · exact ⟨[], by simp⟩
    · simp only; split <;> simp <;> omega
theorem yrv {n m : Nat} {nb : List (List Int)} {L R : List Int} (hR : R.length = m) (hRn : ∀ r, gi R r < (n : Int)) {l : Nat} (hl : RL nb n L R l) :
    ∀ (rs : List Int) (t : RSt), RIv n m nb L R t → (∀ r ∈ rs, r ∈ nbl nb l ∧ 0 ≤ r ∧ r < (m : Int)) → RIv n m nb L R (rrow R rs t) ∧ RLe t (rrow R rs t) ∧ ∀ r ∈ rs, sg (rrow R rs t).s r.toNat
  | [], t, h, _ => ⟨h, .refl t, fun r hr => by cases hr⟩
  | r :: rs, t, h, hrs => by
    obtain ⟨h1, h2⟩ := hrs r (by simp)
    obtain ⟨a1, a2, a3⟩ := rstep_iv hR hRn h hl h1 h2
    obtain ⟨b1, b2, b3⟩ := yrv hR hRn hl rs (yqs R r t) a1 (fun x hx => hrs x (by simp [hx]))
    refine ⟨b1, a2.trans b2, fun x hx => ?_⟩
    rcases List.mem_cons.1 hx with rfl | hx
    · exact b2.hs _ a3
    · exact b3 x hx
def RCl (nb : List (List Int)) (t : RSt) (i : Nat) : Prop := ∀ k, k < i → k < t.l.length → ∀ r ∈ nbl nb (t.l.getD k 0).toNat, sg t.s r.toNat
theorem yrw {n m : Nat} {nb : List (List Int)} {L R : List Int} (hn1 : nb.length = n) (hn2 : ∀ row ∈ nb, ∀ r ∈ row, 0 ≤ r ∧ r < (m : Int)) (hR : R.length = m) (hRn : ∀ r, gi R r < (n : Int)) :
    ∀ (f i : Nat) (t : RSt), t.l.length + uns t.s < f + i → RIv n m nb L R t → RCl nb t i → RIv n m nb L R (rrun nb R f i t) ∧ RCl nb (rrun nb R f i t) (rrun nb R f i t).l.length
  | 0, i, t, hf, h, hc => ⟨h, fun k hk hk2 => hc k (by show k < i; unfold rrun at hk; omega) hk2⟩
  | f + 1, i, t, hf, h, hc => by
    unfold rrun
    by_cases hi : i < t.l.length
    · rw [if_pos hi]
      obtain ⟨l, e, hln, hl⟩ := h.hl (t.l.getD i 0) (yb1 hi 0)
      obtain ⟨a1, a2, a3⟩ := yrv hR hRn hl (nb.getD (t.l.getD i 0).toNat []) t h (fun r hr => by
        rw [e, Int.toNat_natCast] at hr
        exact ⟨hr, hn2 _ (yb1 (by omega) []) r hr⟩)
      obtain ⟨z, hz⟩ := a2.hl
      have hu := a2.hu
      refine yrw hn1 hn2 hR hRn f (i + 1) _ (by omega) a1 fun k hk hk2 r hr => ?_
      rw [hz] at hr
      have hkl : k < t.l.length := by omega
      rw [List.getD_eq_getElem?_getD, List.getElem?_append_left hkl, ← List.getD_eq_getElem?_getD] at hr
      by_cases e2 : k = i
      · subst e2; exact a3 r hr
      · exact a2.hs _ (hc k (by omega) hkl r hr)
    · rw [if_neg hi]; exact ⟨h, fun k hk hk2 => hc k (by omega) hk2⟩
theorem reach_iv0 {n m : Nat} {nb : List (List Int)} {L R : List Int} (hL : L.length = n) : RIv n m nb L R ⟨List.replicate m false, frL L n, []⟩ :=
  ⟨by simp, fun x hx => by obtain ⟨i, e, h1, h2⟩ := (yru (by omega) x).1 hx; exact ⟨i, e, h1, .free h1 h2⟩, fun x hx => (by cases hx), fun r hr => absurd hr (yoz m r), fun r hr => absurd hr (yoz m r),
   fun i hi h => (yru (by omega) _).2 ⟨i, rfl, hi, h⟩, by have := ysw L n; rw [ycq]; simp only; omega, by rw [ycq]; simp⟩
theorem reachP_spec {n m : Nat} {nb : List (List Int)} (hn1 : nb.length = n) (hn2 : ∀ row ∈ nb, ∀ r ∈ row, 0 ≤ r ∧ r < (m : Int)) {L R : List Int} (h : Mch n m nb L R) :
    RIv n m nb L R (ykn nb L R n m) ∧ (∀ i : Nat, (i : Int) ∈ (ykn nb L R n m).l ↔ RL nb n L R i) ∧ ∀ r : Nat, (r : Int) ∈ (ykn nb L R n m).q ↔ RR nb n L R r := by
  obtain ⟨h1, h2⟩ := yrw hn1 hn2 h.hR h.hRn (n + m + 1) 0 ⟨List.replicate m false, frL L n, []⟩ (by have := ysw L n; rw [ycq]; simp only; omega) (reach_iv0 h.hL) (fun k hk => by omega)
  have hre : rrun nb R (n + m + 1) 0 ⟨List.replicate m false, frL L n, []⟩ = ykn nb L R n m := rfl
  rw [hre] at h1 h2
  have hl : ∀ i : Nat, RL nb n L R i → (i : Int) ∈ (ykn nb L R n m).l := by
    intro i hi
    induction hi with
    | free a b => exact h1.hfr _ a b
    | step a b c ih =>
      obtain ⟨k, hk, e⟩ := List.getElem_of_mem ih
      have h3 := h2 k hk hk
      rw [List.getD_eq_getElem?_getD, List.getElem?_eq_getElem hk, Option.getD_some] at h3
      rw [e, Int.toNat_natCast] at h3
      have h4 := h1.hb _ (h3 _ b) (by omega)
      rw [c] at h4; exact h4
  have hsr : ∀ r : Nat, RR nb n L R r → sg (ykn nb L R n m).s r := by
    rintro r ⟨l, a, b⟩
    have hm := hl l a
    obtain ⟨k, hk, e⟩ := List.getElem_of_mem hm
    have h3 := h2 k hk hk
    rw [List.getD_eq_getElem?_getD, List.getElem?_eq_getElem hk, Option.getD_some] at h3
    rw [e, Int.toNat_natCast] at h3
    exact h3 _ b
  refine ⟨h1, fun i => ⟨fun hi => ?_, hl i⟩, fun r => ⟨fun hr => ?_, fun hr => h1.hsq r (hsr r hr)⟩⟩
  · obtain ⟨i2, e, _, h3⟩ := h1.hl _ hi
    have : i = i2 := by omega
    subst this; exact h3
  · obtain ⟨r2, e, _, h3, _⟩ := h1.hq _ hr
    have : r = r2 := by omega
    subst this; exact h3

/-- The reference's rounds over the edges. -/
abbrev FSt := List Bool × List Bool
/-- What the reference's rounds keep. -/
structure FIv (n m : Nat) (nb : List (List Int)) (L R : List Int) (t : FSt) : Prop where
  h1 : t.1.length = n
  h2 : t.2.length = m
  hl : ∀ i, sg t.1 i → RL nb n L R i
  hr : ∀ r, sg t.2 r → RR nb n L R r
  hb : ∀ r, sg t.2 r → 0 ≤ gi R r → sg t.1 (gi R r).toNat
  hfr : ∀ i, i < n → gi L i < 0 → sg t.1 i
/-- Neighbors and edges. -/
theorem foldl_nb_mem (E : List (Int × Int)) : ∀ (nb : List (List Int)) (l : Nat) (r : Int), (∀ e ∈ E, 0 ≤ e.1 ∧ e.1 < (nb.length : Int)) → (r ∈ nbl (E.foldl yil nb) l ↔ r ∈ nbl nb l ∨ ((l : Int), r) ∈ E) := by
  induction E with
  | nil => intro nb l r _; simp
  | cons e E ih =>
    intro nb l r hE
    rw [List.foldl_cons, ih (yil nb e) l r (fun x hx => by have := hE x (by simp [hx]); simpa [yil] using this)]
    have he := hE e (by simp)
    have hm : r ∈ nbl (yil nb e) l ↔ r ∈ nbl nb l ∨ ((l : Int), r) = e := by
      unfold nbl yil
      by_cases h : e.1.toNat = l
      · subst h
        rw [Go.AM.getD_set_eq (by omega), List.mem_append]
        simp only [List.mem_singleton]
        rw [Int.toNat_of_nonneg he.1]
        constructor
        · rintro (h | rfl)
          · exact .inl h
          · exact .inr rfl
        · rintro (h | h)
          · exact .inl h
          · rw [← h]; exact .inr rfl
      · rw [Go.AM.getD_set_ne (by omega)]
        constructor
        · exact .inl
        · rintro (h1 | h1)
          · exact h1
          · rw [← h1] at h; simp at h
    rw [hm, List.mem_cons, or_assoc]
theorem yc5 {n : Nat} {m : Int} {E : List (Int × Int)} (hE : ∀ e ∈ E, yb8 n m e = true) (l : Nat) (r : Int) : r ∈ nbl (nbOf n E) l ↔ ((l : Int), r) ∈ E := by
  unfold nbOf
  rw [foldl_nb_mem E _ l r (fun e he => by have := edgeIn_iff.1 (hE e he); rw [List.length_replicate]; omega)]
  have : nbl (List.replicate n []) l = ([] : List Int) := by
    unfold nbl
    rw [List.getD_eq_getElem?_getD, List.getElem?_replicate]
    split <;> rfl
  rw [this]; simp
end Go.AM

namespace Go.Proofs.W.M
open Go.AM Go
set_option maxRecDepth 100000
set_option maxHeartbeats 2000000
end Go.Proofs.W.M

namespace Go.Proofs.W.M
open Go.AM Go
set_option maxRecDepth 100000
set_option maxHeartbeats 2000000
def ys5 (l : List Int) (j : Nat) : List Int := ((List.range j).filter fun i => !decide (((i : Nat) : Int) ∈ l)).map fun (i : Nat) => (i : Int)
theorem restI_mem (l : List Int) (j : Nat) (x : Int) : x ∈ ys5 l j ↔ ∃ i : Nat, x = i ∧ i < j ∧ (i : Int) ∉ l := by
 simp only [ys5, List.mem_map, List.mem_filter, List.mem_range, Bool.not_eq_true', decide_eq_false_iff_not]
 constructor
 ·rintro ⟨i, ⟨h1, h2⟩, rfl⟩; exact ⟨i, rfl, h1, h2⟩
 ·rintro ⟨i, rfl, h1, h2⟩; exact ⟨i, ⟨h1, h2⟩, rfl⟩
/-- The nodes that Cover and Hall see. -/
def rchM (n m : Nat) (E : List (Int × Int)) : RSt := ykn (nbOf n E) (maxLR (nbOf n E) n m n).1 (maxLR (nbOf n E) n m n).2 n m
def cvL (n m : Nat) (E : List (Int × Int)) : List Bool := rowL n (ys5 (rchM n m E).l n)
def cvR (n m : Nat) (E : List (Int × Int)) : List Bool := rowL m (rchM n m E).q
structure Gd (n m : Nat) (E : List (Int × Int)) : Prop where
 hn : n ≤ 512
 hm : m ≤ 512
 hl : E.length ≤ 2000
 hE : ∀ e ∈ E, yb8 n m e = true
 hnd : E.Nodup
theorem Gd.valid {n m : Nat} {E : List (Int × Int)} (h : Gd n m E) : yhr n m E = true := by
 have h1 := h.hn
 have h2 := h.hm
 simp only [yhr, ykm, Bool.and_eq_true, decide_eq_true_eq, List.all_eq_true]
 exact ⟨⟨⟨⟨⟨by omega, by omega⟩, by omega⟩, by omega⟩, h.hl⟩, h.hE, h.hnd⟩
theorem Gd.rng {n m : Nat} {E : List (Int × Int)} (h : Gd n m E) : ∀ row ∈ nbOf n E, ∀ r ∈ row, 0 ≤ r ∧ r < (m : Int) := ymk fun e he => by have := edgeIn_iff.1 (h.hE e he); omega
theorem Gd.row {n m : Nat} {E : List (Int × Int)} (h : Gd n m E) : ∀ row ∈ nbOf n E, row.length ≤ 100000 := fun row hr => by have := ymj n E row hr; have := h.hl; omega
theorem Gd.max {n m : Nat} {E : List (Int × Int)} (h : Gd n m E) : Mch n m (nbOf n E) (maxLR (nbOf n E) n m n).1 (maxLR (nbOf n E) n m n).2 ∧ NoAug (nbOf n E) n (maxLR (nbOf n E) n m n).1 (maxLR (nbOf n E) n m n).2 := maxLR_max (yf4 n E) h.rng
end Go.Proofs.W.M

namespace Go.Proofs.W
open Go.AM Go
set_option maxRecDepth 100000
set_option maxHeartbeats 2000000
def outB (n : Nat) (i : Int) : Bool := decide (i < 0) || decide ((n : Int) ≤ i)
theorem outc_r (es : List (List AV)) (hl : es.length ≤ 9223372036854775807) (i : Int) : Reads Tryd.prog 48 false [.int .i64 i, .rptr [.rsl 2 es]] (.bool (outB es.length i)) := by
 refine Reads.body (rs := [.tmp 3]) Tryd.func48 rfl Tryd.ntmps48 rfl (by simp) ?_
 generalize hQr : retQ _ _ _ = Qr
 refine AW.seq fun K1 hK1 => ?_
 refine AW.regionK 0 (fun _ => none) [0, 1] [] ?_
 simp only [go_sem, reduceIte, reduceCtorEq, zA, zM, zE, zL, zD, zS, zP, zB, zI, zR]
 repeat with_reducible refine cj ?_ ?_
 all_goals try first | omega
 refine hK1 _ _ _ ?_; clear hK1
 refine AW.seq fun K2 hK2 => ?_
 refine AW.regionK 0 (fun _ => none) [3] [] ?_
 simp only [go_sem, reduceIte, reduceCtorEq, zA, zM, zE, zL, zD, zS, zP, zB, zI, zR]
 repeat with_reducible refine cj ?_ ?_
 all_goals try first | omega | (intros; (repeat' apply And.intro) <;> first | assumption | omega | decide) | (intro hgd; exact absurd hgd (by decide)) | rfl | (simp only [go_sem, reduceIte, reduceCtorEq, zA, zM, zE, zL, zD, zS, zP, zB, zI, zR]; done) | (intro _hgd; simp_all [go_sem]; done)
 refine hK2 _ _ _ ?_; clear hK2
 refine AW.ret ?_
 rw [← hQr]
 simp only [go_sem, reduceIte, reduceCtorEq, zA, zM, zE, zL, zD, zS, zP, zB, zI, zR]
 exact Wk.of_eq (by simp [outB])
theorem ixout_r (es : List (List AV)) (hl : es.length ≤ 9223372036854775807) (l : List Int) (hll : l.length ≤ 9223372036854775807) : Reads Tryd.prog 74 false [.rsl 1 (ints l), .fn 48 [.rptr [.rsl 2 es]]] (.int .i64 (ixf (outB es.length) l)) := by
 have hbp := fun x => outc_r es hl x
 refine Reads.body (rs := [.tmp 4]) Tryd.func74 rfl Tryd.ntmps74 rfl (by simp) ?_
 generalize hQr : retQ _ _ _ = Qr
 refine AW.seq fun K1 hK1 => ?_
 refine AW.regionK 0 (fun _ => none) [0, 1] [] ?_
 simp only [go_sem, reduceIte, reduceCtorEq, zA, zM, zE, zL, zD, zS, zP, zB, zI, zR, yac]
 repeat with_reducible refine cj ?_ ?_
 all_goals try first | omega
 refine hK1 _ _ _ ?_; clear hK1
 refine AW.seq fun K2 hK2 => ?_
 refine AW.seq fun K3 hK3 => ?_
 refine AW.regionK 0 (fun _ => none) [0, 1, 7, 8] [] ?_
 simp only [go_sem, reduceIte, reduceCtorEq, zA, zM, zE, zL, zD, zS, zP, zB, zI, zR, yac]
 repeat with_reducible refine cj ?_ ?_
 all_goals try first | omega
 refine hK3 _ _ _ ?_; clear hK3
 refine AW.block ?_
 refine AW.loopE (fun mm ee ss kk => ∃ (j : Nat), l.length - j = mm ∧ ee = [(0, .rsl 1 (ints l)), (1, .fn 48 [.rptr [.rsl 2 es]]), (7, .int .i64 l.length), (8, .int .i64 (j : Nat))] ∧ ss = [] ∧ (j ≤ l.length ∧ (l.take j).any (outB es.length) = false)) ?_ ?_
 ·refine ⟨_, 0, rfl, ?henv, ?hstore, ?hst⟩
  case henv =>
   repeat' (first | rfl | refine yaa ?_ ?_ | refine yad ?_ ?_ ?_ ?_ | refine yah ?_ | refine yae ?_ | refine yai ?_ | refine yaj ?_ | refine yan ?_ ?_ ?_ | refine yak ?_ ?_ ?_ | refine yal ?_ | refine yaf ?_ ?_ | refine yab ?_ ?_)
   all_goals (first | (simp; done) | omega | (simp; omega))
  case hstore =>
   repeat' (first | rfl | refine yaa ?_ ?_ | refine yad ?_ ?_ ?_ ?_ | refine yah ?_ | refine yae ?_ | refine yai ?_ | refine yaj ?_ | refine yan ?_ ?_ ?_ | refine yak ?_ ?_ ?_ | refine yal ?_ | refine yaf ?_ ?_ | refine yab ?_ ?_)
   all_goals (first | (simp; done) | omega | (simp; omega))
  case hst =>
   first | trivial | omega | (simp; done) | (simp; omega)
 rintro mm ee ss kk ⟨j, rfl, rfl, rfl, hI⟩
 generalize hQl1 : ybd _ _ = Ql1
 obtain ⟨hj, hall⟩ := hI
 refine AW.seq fun K4 hK4 => ?_
 refine AW.regionK 0 (fun _ => none) [0, 1, 7, 8, 9] [] ?_
 simp only [go_sem, reduceIte, reduceCtorEq, zA, zM, zE, zL, zD, zS, zP, zB, zI, zR, yac]
 repeat with_reducible refine cj ?_ ?_
 all_goals try first | omega
 refine hK4 _ _ _ ?_; clear hK4
 refine AW.seq fun K5 hK5 => ?_
 refine AW.cond rfl (by simp only [go_sem, reduceIte, reduceCtorEq, zA, zM, zE, zL, zD, zS, zP, zB, zI, zR]) ?_ ?_
 ·intro hb
  try simp only [hB, decide_eq_true_eq, decide_eq_false_iff_not] at hb
  obtain ⟨x, hx⟩ := getI (l := l) (j := j) (by omega)
  have hgx := yer hx
  have hats := yco (p := outB es.length) hx
  have hbx := hbp x
  refine AW.skip ?_
  refine hK5 _ _ _ ?_; clear hK5
  refine AW.seq fun K6 hK6 => ?_
  refine AW.block ?_
  refine AW.seq fun K7 hK7 => ?_
  refine AW.regionK 0 (fun _ => none) [0, 1, 5, 7, 8] [] ?_
  simp only [go_sem, reduceIte, reduceCtorEq, zA, zM, zE, zL, zD, zS, zP, zB, zI, zR, yac]
  repeat with_reducible refine cj ?_ ?_
  all_goals try first | omega
  refine hK7 _ _ _ ?_; clear hK7
  refine AW.seq fun K8 hK8 => ?_
  refine AW.regionK 0 (fun ii => if ii = 5 then some (.reads false (.bool (outB es.length x))) else none) [0, 1, 5, 7, 8, 16] [] ?_
  simp only [go_sem, reduceIte, reduceCtorEq, zA, zM, zE, zL, zD, zS, zP, zB, zI, zR, yac, hgx]
  repeat with_reducible refine cj ?_ ?_
  all_goals try first | (exact hbx) | omega | exact ent (by kernel_rfl)
  refine hK8 _ _ _ ?_; clear hK8
  refine AW.cond rfl (by simp only [go_sem, reduceIte, reduceCtorEq, zA, zM, zE, zL, zD, zS, zP, zB, zI, zR]) ?_ ?_
  ·intro hb
   try simp only [hB, decide_eq_true_eq, decide_eq_false_iff_not] at hb
   refine AW.seq fun K9 hK9 => ?_
   refine AW.regionK 0 (fun _ => none) [4] [] ?_
   simp only [go_sem, reduceIte, reduceCtorEq, zA, zM, zE, zL, zD, zS, zP, zB, zI, zR, yac]
   repeat with_reducible refine cj ?_ ?_
   all_goals try first | omega
   refine hK9 _ _ _ ?_; clear hK9
   refine AW.ret ?_
   rw [← hQl1]
   rw [← hQr]
   simp only [go_sem, reduceIte, reduceCtorEq, zA, zM, zE, zL, zD, zS, zP, zB, zI, zR, yac]
   exact Wk.of_eq (by rw [yla hx hb hall])
  ·intro hb
   try simp only [hB, decide_eq_true_eq, decide_eq_false_iff_not] at hb
   refine AW.skip ?_
   refine hK6 _ _ _ ?_; clear hK6
   refine AW.regionK 0 (fun _ => none) [0, 1, 7, 8] [] ?_
   simp only [go_sem, reduceIte, reduceCtorEq, zA, zM, zE, zL, zD, zS, zP, zB, zI, zR, yac]
   repeat with_reducible refine cj ?_ ?_
   all_goals try first | omega
   rw [← hQl1]
   change Exists _
   refine ⟨_, ?hm, j + 1, rfl, ?henv, ?hstore, ?hst⟩
   case henv =>
    repeat' (first | rfl | refine yaa ?_ ?_ | refine yad ?_ ?_ ?_ ?_ | refine yah ?_ | refine yae ?_ | refine yai ?_ | refine yaj ?_ | refine yan ?_ ?_ ?_ | refine yak ?_ ?_ ?_ | refine yal ?_ | refine yaf ?_ ?_ | refine yab ?_ ?_)
    all_goals (first | (simp; done) | omega | (simp; omega))
   case hstore =>
    repeat' (first | rfl | refine yaa ?_ ?_ | refine yad ?_ ?_ ?_ ?_ | refine yah ?_ | refine yae ?_ | refine yai ?_ | refine yaj ?_ | refine yan ?_ ?_ ?_ | refine yak ?_ ?_ ?_ | refine yal ?_ | refine yaf ?_ ?_ | refine yab ?_ ?_)
    all_goals (first | (simp; done) | omega | (simp; omega))
   case hst =>
    exact ⟨by omega, by rw [hats, hall, hb]; rfl⟩
   case hm => omega
 ·intro hb
  try simp only [hB, decide_eq_true_eq, decide_eq_false_iff_not] at hb
  refine AW.keep [] [] ?_
  try simp only [go_sem, reduceIte, reduceCtorEq, zA, zM, zE, zL, zD, zS, zP, zB, zI, zR]
  refine AW.exit ?_
  rw [← hQl1]
  refine hK2 _ _ _ ?_; clear hK2
  refine AW.seq fun K10 hK10 => ?_
  refine AW.regionK 0 (fun _ => none) [4] [] ?_
  simp only [go_sem, reduceIte, reduceCtorEq, zA, zM, zE, zL, zD, zS, zP, zB, zI, zR, yac]
  repeat with_reducible refine cj ?_ ?_
  all_goals try first | omega
  refine hK10 _ _ _ ?_; clear hK10
  refine AW.ret ?_
  rw [← hQr]
  simp only [go_sem, reduceIte, reduceCtorEq, zA, zM, zE, zL, zD, zS, zP, zB, zI, zR, yac]
  exact Wk.of_eq (by rw [List.take_of_length_le (by omega)] at hall; rw [yhc hall])
theorem ctout_r (es : List (List AV)) (hl : es.length ≤ 9223372036854775807) (l : List Int) (hll : l.length ≤ 9223372036854775807) : Reads Tryd.prog 47 false [.rsl 1 (ints l), .fn 48 [.rptr [.rsl 2 es]]] (.bool (l.any (outB es.length))) := by
 have h := ixout_r es hl l hll
 have hge := ypy (outB es.length) l
 refine Reads.body (rs := [.tmp 4]) Tryd.func47 rfl Tryd.ntmps47 rfl (by simp) ?_
 generalize hQr : retQ _ _ _ = Qr
 refine AW.seq fun K1 hK1 => ?_
 refine AW.regionK 0 (fun _ => none) [0, 1] [] ?_
 simp only [go_sem, reduceIte, reduceCtorEq, zA, zM, zE, zL, zD, zS, zP, zB, zI, zR]
 repeat with_reducible refine cj ?_ ?_
 all_goals try first | omega
 refine hK1 _ _ _ ?_; clear hK1
 refine AW.seq fun K2 hK2 => ?_
 refine AW.regionK 0 (fun ii => if ii = 2 then some (.reads false (.int .i64 (ixf (outB es.length) l))) else none) [4] [] ?_
 simp only [go_sem, reduceIte, reduceCtorEq, zA, zM, zE, zL, zD, zS, zP, zB, zI, zR]
 repeat with_reducible refine cj ?_ ?_
 all_goals try first | (exact h) | omega | exact ent (by kernel_rfl)
 refine hK2 _ _ _ ?_; clear hK2
 refine AW.ret ?_
 rw [← hQr]
 simp only [go_sem, reduceIte, reduceCtorEq, zA, zM, zE, zL, zD, zS, zP, zB, zI, zR]
 exact Wk.of_eq (by rw [hge])
/-- Steps of a chain up to place j. -/
def ygj (n : Nat) (t : List (List Bool)) (l : List Int) (j : Nat) : Bool := (List.range j).all fun k => decide (k = 0) || yjb n t (l.getD (k - 1) 0) (l.getD k 0)
def chainB (n : Nat) (t : List (List Bool)) (l : List Int) : Bool := !l.any (outB n) && ygj n t l l.length
theorem yko (n : Nat) (t : List (List Bool)) (l : List Int) (j : Nat) : ygj n t l (j + 1) = (ygj n t l j && (decide (j = 0) || yjb n t (l.getD (j - 1) 0) (l.getD j 0))) := by
 unfold ygj
 rw [List.range_succ, List.all_append]; simp
theorem stepsB_false {n : Nat} {t : List (List Bool)} {l : List Int} {j k : Nat} (h : ygj n t l j = false) (hk : j ≤ k) : ygj n t l k = false := by
 induction k with
 | zero => rw [show j = 0 by omega] at h; exact h
 | succ k ih =>
  by_cases e : j = k + 1
  ·rw [← e]; exact h
  ·rw [yko, ih (by omega)]; rfl
theorem yeg (n : Nat) (t : List (List Bool)) (hs : Sq n t) (hn : n ≤ 512) (hp : poB n t = true) (l : List Int) (hll : l.length ≤ 9223372036854775807) : Reads Tryd.prog 17 false [relB t, .rsl 1 (ints l)] (.bool (chainB n t l)) := by
 have hv := yf3 n t hs hn
 rw [hp] at hv
 have htl : (tabR t).length = n := by rw [ybt, hs.len]
 have hc := Reads.flat (ctout_r (tabR t) (by omega) l hll) rfl
 rw [htl] at hc
 have hle := fun i j => yss n t hs hn i j
 simp only [hp, Bool.true_and] at hle
 unfold relB at *
 refine Reads.body (rs := [.tmp 4]) Tryd.func17 rfl Tryd.ntmps17 rfl (by simp) ?_
 generalize hQr : retQ _ _ _ = Qr
 refine AW.seq fun K1 hK1 => ?_
 refine AW.regionK 0 (fun _ => none) [1, 2] [2] ?_
 simp only [go_sem, reduceIte, reduceCtorEq, zA, zM, zE, zL, zD, zS, zP, zB, zI, zR, yac]
 repeat with_reducible refine cj ?_ ?_
 all_goals try first | omega
 refine hK1 _ _ _ ?_; clear hK1
 refine AW.seq fun K2 hK2 => ?_
 refine AW.seq fun K3 hK3 => ?_
 refine AW.regionK 0 (fun ii => if ii = 1 then some (.reads false (.bool true)) else if ii = 6 then some (.reads true (.bool (l.any (outB n)))) else none) [1, 2, 13] [2] ?_
 simp only [go_sem, reduceIte, reduceCtorEq, zA, zM, zE, zL, zD, zS, zP, zB, zI, zR, yac]
 repeat with_reducible refine cj ?_ ?_
 all_goals try first | (first | exact hv | (intro hh; exact ⟨hh, hc⟩)) | (intros; (repeat' apply And.intro) <;> first | assumption | (first | exact hv | (intro hh; exact ⟨hh, hc⟩))) | omega | exact ent (by kernel_rfl) | (intro hgd; exact absurd hgd (by decide)) | rfl | (simp only [go_sem, reduceIte, reduceCtorEq, zA, zM, zE, zL, zD, zS, zP, zB, zI, zR, yac]; done) | (intro _hgd; simp_all [go_sem]; done)
 refine hK3 _ _ _ ?_; clear hK3
 refine AW.cond rfl (by simp only [go_sem, reduceIte, reduceCtorEq, zA, zM, zE, zL, zD, zS, zP, zB, zI, zR]) ?_ ?_
 ·intro hb
  try simp only [hB, decide_eq_true_eq, decide_eq_false_iff_not] at hb
  refine AW.seq fun K4 hK4 => ?_
  refine AW.regionK 0 (fun _ => none) [4] [] ?_
  simp only [go_sem, reduceIte, reduceCtorEq, zA, zM, zE, zL, zD, zS, zP, zB, zI, zR, yac]
  repeat with_reducible refine cj ?_ ?_
  all_goals try first | omega
  refine hK4 _ _ _ ?_; clear hK4
  refine AW.ret ?_
  rw [← hQr]
  simp only [go_sem, reduceIte, reduceCtorEq, zA, zM, zE, zL, zD, zS, zP, zB, zI, zR, yac]
  exact Wk.of_eq (by unfold chainB; rw [show l.any (outB n) = true by simpa using hb]; rfl)
 ·intro hb
  try simp only [hB, decide_eq_true_eq, decide_eq_false_iff_not] at hb
  have hout : l.any (outB n) = false := by revert hb; cases l.any (outB n) <;> simp
  clear hb
  refine AW.skip ?_
  refine hK2 _ _ _ ?_; clear hK2
  refine AW.seq fun K5 hK5 => ?_
  refine AW.seq fun K6 hK6 => ?_
  refine AW.regionK 0 (fun _ => none) [1, 2, 15, 16] [2] ?_
  simp only [go_sem, reduceIte, reduceCtorEq, zA, zM, zE, zL, zD, zS, zP, zB, zI, zR, yac]
  repeat with_reducible refine cj ?_ ?_
  all_goals try first | omega
  refine hK6 _ _ _ ?_; clear hK6
  refine AW.block ?_
  refine AW.loopE (fun mm ee ss kk => ∃ (j g v : Nat), l.length - j = mm ∧ ee = [(1, .rsl 1 (ints l)), (2, .ptr ⟨2, g, none⟩ 0 0), (15, .int .i64 l.length), (16, .int .i64 (j : Nat))] ∧ ss = [(2, some ⟨g, v, 1, [[.rsl 2 (tabR t)]]⟩)] ∧ (j ≤ l.length ∧ ygj n t l j = true)) ?_ ?_
  ·refine ⟨_, 0, ?_, ?_, rfl, ?henv, ?hstore, ?hst⟩
   case henv =>
    repeat' (first | rfl | refine yaa ?_ ?_ | refine yad ?_ ?_ ?_ ?_ | refine yah ?_ | refine yae ?_ | refine yai ?_ | refine yaj ?_ | refine yan ?_ ?_ ?_ | refine yak ?_ ?_ ?_ | refine yal ?_ | refine yaf ?_ ?_ | refine yab ?_ ?_)
    all_goals (first | (simp; done) | omega | (simp; omega))
   case hstore =>
    repeat' (first | rfl | refine yaa ?_ ?_ | refine yad ?_ ?_ ?_ ?_ | refine yah ?_ | refine yae ?_ | refine yai ?_ | refine yaj ?_ | refine yan ?_ ?_ ?_ | refine yak ?_ ?_ ?_ | refine yal ?_ | refine yaf ?_ ?_ | refine yab ?_ ?_)
    all_goals (first | (simp; done) | omega | (simp; omega))
   case hst =>
    exact ⟨by omega, rfl⟩
  rintro mm ee ss kk ⟨j, g, v, rfl, rfl, rfl, hI⟩
  generalize hQl1 : ybd _ _ = Ql1
  obtain ⟨hj, hst⟩ := hI
  refine AW.seq fun K7 hK7 => ?_
  refine AW.regionK 0 (fun _ => none) [1, 2, 15, 16, 17] [2] ?_
  simp only [go_sem, reduceIte, reduceCtorEq, zA, zM, zE, zL, zD, zS, zP, zB, zI, zR, yac]
  repeat with_reducible refine cj ?_ ?_
  all_goals try first | omega
  refine hK7 _ _ _ ?_; clear hK7
  refine AW.seq fun K8 hK8 => ?_
  refine AW.cond rfl (by simp only [go_sem, reduceIte, reduceCtorEq, zA, zM, zE, zL, zD, zS, zP, zB, zI, zR]) ?_ ?_
  ·intro hb
   try simp only [hB, decide_eq_true_eq, decide_eq_false_iff_not] at hb
   have hg1 := ybv (l := l) (i := j) (by omega)
   have hg0 := ybv (l := l) (i := j - 1) (by omega)
   have hss := yko n t l j
   rw [hst, Bool.true_and] at hss
   have e1 : ((j : Int) - 1).toNat = j - 1 := by omega
   have hcm := hle (l.getD (j - 1) 0) (l.getD j 0)
   have hj0 : decide (0 < (j : Int)) = !decide (j = 0) := by by_cases h : j = 0 <;> simp [h]; omega
   refine AW.skip ?_
   refine hK8 _ _ _ ?_; clear hK8
   refine AW.seq fun K9 hK9 => ?_
   refine AW.block ?_
   refine AW.seq fun K10 hK10 => ?_
   refine AW.regionK 0 (fun _ => none) [1, 2, 5, 15, 16] [2] ?_
   simp only [go_sem, reduceIte, reduceCtorEq, zA, zM, zE, zL, zD, zS, zP, zB, zI, zR, yac]
   repeat with_reducible refine cj ?_ ?_
   all_goals try first | omega
   refine hK10 _ _ _ ?_; clear hK10
   refine AW.seq fun K11 hK11 => ?_
   refine AW.regionD yd6 0 (fun ii => if ii = 13 then some (.reads false (.bool (yjb n t (l.getD (j - 1) 0) (l.getD j 0)))) else none) [1, 2, 15, 16, 34] [2] ?_
   simp only [go_sem, reduceIte, reduceCtorEq, zA, zM, zE, zL, zD, zS, zP, zB, zI, zR, yac, hg1, hg0, e1]
   repeat with_reducible refine cj ?_ ?_
   all_goals try first | (first | exact hcm | (intro hh; have hq := of_decide_eq_true hh; (repeat' apply And.intro) <;> first | exact hh | exact hcm | omega)) | (intros; (repeat' apply And.intro) <;> first | assumption | (first | exact hcm | (intro hh; have hq := of_decide_eq_true hh; (repeat' apply And.intro) <;> first | exact hh | exact hcm | omega))) | omega | exact chk (by kernel_rfl) | exact ent (by kernel_rfl) | (intro hgd; exact absurd hgd (by decide)) | rfl | (simp only [go_sem, reduceIte, reduceCtorEq, zA, zM, zE, zL, zD, zS, zP, zB, zI, zR, yac, hg1, hg0, e1]; done) | (intro _hgd; simp_all [go_sem]; done)
   refine hK11 _ _ _ ?_; clear hK11
   refine AW.cond rfl (by simp only [go_sem, reduceIte, reduceCtorEq, zA, zM, zE, zL, zD, zS, zP, zB, zI, zR]) ?_ ?_
   ·intro hb
    try simp only [hB, decide_eq_true_eq, decide_eq_false_iff_not] at hb
    refine AW.seq fun K12 hK12 => ?_
    refine AW.regionK 0 (fun _ => none) [4] [] ?_
    simp only [go_sem, reduceIte, reduceCtorEq, zA, zM, zE, zL, zD, zS, zP, zB, zI, zR, yac]
    repeat with_reducible refine cj ?_ ?_
    all_goals try first | omega
    refine hK12 _ _ _ ?_; clear hK12
    refine AW.ret ?_
    rw [← hQl1]
    rw [← hQr]
    simp only [go_sem, reduceIte, reduceCtorEq, zA, zM, zE, zL, zD, zS, zP, zB, zI, zR, yac]
    have hf : ygj n t l (j + 1) = false := by rw [hss]; revert hb; rw [Bool.or_eq_false_iff]; intro hb; exact ⟨decide_eq_false (by omega), hb.2⟩
    exact Wk.of_eq (by unfold chainB; rw [stepsB_false hf (by omega)]; simp)
   ·intro hb
    try simp only [hB, decide_eq_true_eq, decide_eq_false_iff_not] at hb
    refine AW.skip ?_
    refine hK9 _ _ _ ?_; clear hK9
    refine AW.regionK 0 (fun _ => none) [1, 2, 15, 16] [2] ?_
    simp only [go_sem, reduceIte, reduceCtorEq, zA, zM, zE, zL, zD, zS, zP, zB, zI, zR, yac]
    repeat with_reducible refine cj ?_ ?_
    all_goals try first | omega
    rw [← hQl1]
    change Exists _
    refine ⟨_, ?hm, j + 1, ?_, ?_, rfl, ?henv, ?hstore, ?hst⟩
    case henv =>
     repeat' (first | rfl | refine yaa ?_ ?_ | refine yad ?_ ?_ ?_ ?_ | refine yah ?_ | refine yae ?_ | refine yai ?_ | refine yaj ?_ | refine yan ?_ ?_ ?_ | refine yak ?_ ?_ ?_ | refine yal ?_ | refine yaf ?_ ?_ | refine yab ?_ ?_)
     all_goals (first | (simp; done) | omega | (simp; omega))
    case hstore =>
     repeat' (first | rfl | refine yaa ?_ ?_ | refine yad ?_ ?_ ?_ ?_ | refine yah ?_ | refine yae ?_ | refine yai ?_ | refine yaj ?_ | refine yan ?_ ?_ ?_ | refine yak ?_ ?_ ?_ | refine yal ?_ | refine yaf ?_ ?_ | refine yab ?_ ?_)
     all_goals (first | (simp; done) | omega | (simp; omega))
    case hst =>
     exact ⟨by omega, by rw [hss]; by_cases h : j = 0; simp [h]; have : yjb n t (l.getD (j - 1) 0) (l.getD j 0) = true := by { rcases hb with hb | hb; omega; exact hb }; rw [this]; simp⟩
    case hm => omega
  ·intro hb
   try simp only [hB, decide_eq_true_eq, decide_eq_false_iff_not] at hb
   refine AW.keep [] [] ?_
   try simp only [go_sem, reduceIte, reduceCtorEq, zA, zM, zE, zL, zD, zS, zP, zB, zI, zR]
   refine AW.exit ?_
   rw [← hQl1]
   refine hK5 _ _ _ ?_; clear hK5
   refine AW.seq fun K13 hK13 => ?_
   refine AW.regionK 0 (fun _ => none) [4] [] ?_
   simp only [go_sem, reduceIte, reduceCtorEq, zA, zM, zE, zL, zD, zS, zP, zB, zI, zR, yac]
   repeat with_reducible refine cj ?_ ?_
   all_goals try first | omega
   refine hK13 _ _ _ ?_; clear hK13
   refine AW.ret ?_
   rw [← hQr]
   simp only [go_sem, reduceIte, reduceCtorEq, zA, zM, zE, zL, zD, zS, zP, zB, zI, zR, yac]
   have hj2 : j = l.length := by omega
   subst hj2
   exact Wk.of_eq (by unfold chainB; rw [hout, hst]; rfl)
end Go.Proofs.W

namespace Go.Proofs.W
open Go.AM Go
set_option maxRecDepth 100000
set_option maxHeartbeats 2000000
/-- No two members are related. -/
def yn8 (t : List (List Bool)) (l m : List Nat) : Bool := l.all fun i => m.all fun j => !atT t i j
def yeh (t : List (List Bool)) (b : List Bool) : Bool := yn8 t (memB b) (memB b)
theorem ykp {t : List (List Bool)} {l m : List Nat} {i j : Nat} (hi : i ∈ l) (hj : j ∈ m) (h : atT t i j = true) : yn8 t l m = false := by
 unfold yn8
 rw [List.all_eq_false]
 refine ⟨i, hi, ?_⟩
 have : (m.all fun j => !atT t i j) = false := by
  rw [List.all_eq_false]; exact ⟨j, hj, by simp [h]⟩
 rw [this]; simp
theorem ymn {l : List Nat} {j x : Nat} (h : l[j]? = some x) : (ints (nats l)).getD j [] = [.int .i64 (x : Nat)] := by
 refine yer ?_
 unfold nats
 rw [List.getElem?_map, h]; rfl
theorem yjo (n : Nat) (t : List (List Bool)) (hs : Sq n t) (hn : n ≤ 512) (hp : poB n t = true) (N : Int) (W : List Int) (hW : W.length ≤ 9223372036854775807) (hbad : (decide (N = n) && validS N W) = false) : Reads Tryd.prog 18 false [relB t, .agg [.int .i64 N, .rsl 1 (words W)]] (.bool false) := by
 have hpv := yf3 n t hs hn
 rw [hp] at hpv
 have htl : (tabR t).length = n := by rw [ybt, hs.len]
 have hv := yd2 N W hW
 unfold relB at *
 refine Reads.body (rs := [.tmp 4]) Tryd.func18 rfl Tryd.ntmps18 rfl (by simp) ?_
 generalize hQr : retQ _ _ _ = Qr
 refine AW.seq fun K1 hK1 => ?_
 refine AW.regionK 0 (fun _ => none) [2, 3] [2, 3] ?_
 simp only [go_sem, reduceIte, reduceCtorEq, zA, zM, zE, zL, zD, zS, zP, zB, zI, zR, htl]
 repeat with_reducible refine cj ?_ ?_
 all_goals try first | omega
 refine hK1 _ _ _ ?_; clear hK1
 refine AW.seq fun K2 hK2 => ?_
 refine AW.seq fun K3 hK3 => ?_
 refine AW.regionK 0 (fun ii => if ii = 1 then some (.reads false (.bool true)) else if ii = 13 then some (.reads false (.bool (validS N W))) else none) [2, 3, 26] [2, 3] ?_
 simp only [go_sem, reduceIte, reduceCtorEq, zA, zM, zE, zL, zD, zS, zP, zB, zI, zR, htl]
 repeat with_reducible refine cj ?_ ?_
 all_goals try first | (first | exact hpv | (intro hh; exact ⟨hh, hv⟩)) | (intros; (repeat' apply And.intro) <;> first | assumption | (first | exact hpv | (intro hh; exact ⟨hh, hv⟩))) | omega | exact ent (by kernel_rfl) | (intro hgd; exact absurd hgd (by decide)) | rfl | (simp only [go_sem, reduceIte, reduceCtorEq, zA, zM, zE, zL, zD, zS, zP, zB, zI, zR, htl]; done) | (intro _hgd; simp_all [go_sem]; done)
 refine hK3 _ _ _ ?_; clear hK3
 refine AW.cond rfl (by simp only [go_sem, reduceIte, reduceCtorEq, zA, zM, zE, zL, zD, zS, zP, zB, zI, zR]) ?_ ?_
 ·intro hb
  try simp only [hB, decide_eq_true_eq, decide_eq_false_iff_not] at hb
  refine AW.seq fun K4 hK4 => ?_
  refine AW.regionK 0 (fun _ => none) [4] [] ?_
  simp only [go_sem, reduceIte, reduceCtorEq, zA, zM, zE, zL, zD, zS, zP, zB, zI, zR, htl]
  repeat with_reducible refine cj ?_ ?_
  all_goals try first | omega
  refine hK4 _ _ _ ?_; clear hK4
  refine AW.ret ?_
  rw [← hQr]
  simp only [go_sem, reduceIte, reduceCtorEq, zA, zM, zE, zL, zD, zS, zP, zB, zI, zR, htl]
  exact Wk.refl _
 ·intro hb
  try simp only [hB, decide_eq_true_eq, decide_eq_false_iff_not] at hb
  exfalso; revert hb hbad; cases validS N W <;> simp
theorem yht (n : Nat) (t : List (List Bool)) (hs : Sq n t) (hn : n ≤ 512) (hp : poB n t = true) (b : List Bool) (hb0 : b.length = n) : Reads Tryd.prog 18 false [relB t, .agg [.int .i64 n, .rsl 1 (words (setW b n))]] (.bool (yeh t b)) := by
 have hpv := yf3 n t hs hn
 rw [hp] at hpv
 have htl : (tabR t).length = n := by rw [ybt, hs.len]
 have hwl := yjm (b := b) (by omega)
 have vb := yci (b := b) (by omega)
 have hmb := yhq b (by omega)
 have hmem : ∀ i ∈ memB b, i < n := fun i hi => by have := (memB_mem.1 hi).1; omega
 have hml := yme b
 unfold rowB at hmb
 rw [hb0] at vb hmb hwl
 have hv := yd2 n (setW b n) (by omega)
 rw [vb] at hv
 have hle := fun i j => yss n t hs hn i j
 simp only [hp, Bool.true_and] at hle
 unfold yeh
 generalize setW b n = W at *
 generalize memB b = M at *
 have hnl := yb3 M
 unfold relB at *
 refine Reads.body (rs := [.tmp 4]) Tryd.func18 rfl Tryd.ntmps18 rfl (by simp) ?_
 generalize hQr : retQ _ _ _ = Qr
 refine AW.seq fun K1 hK1 => ?_
 refine AW.regionK 0 (fun _ => none) [2, 3] [2, 3] ?_
 simp only [go_sem, reduceIte, reduceCtorEq, zA, zM, zE, zL, zD, zS, zP, zB, zI, zR, htl, yac, hnl]
 repeat with_reducible refine cj ?_ ?_
 all_goals try first | omega
 refine hK1 _ _ _ ?_; clear hK1
 refine AW.seq fun K2 hK2 => ?_
 refine AW.seq fun K3 hK3 => ?_
 refine AW.regionK 0 (fun ii => if ii = 1 then some (.reads false (.bool true)) else if ii = 13 then some (.reads false (.bool true)) else none) [2, 3, 26] [2, 3] ?_
 simp only [go_sem, reduceIte, reduceCtorEq, zA, zM, zE, zL, zD, zS, zP, zB, zI, zR, htl, yac, hnl]
 repeat with_reducible refine cj ?_ ?_
 all_goals try first | (first | exact hpv | (intro hh; exact ⟨hh, hv⟩) | exact hv) | (intros; (repeat' apply And.intro) <;> first | assumption | (first | exact hpv | (intro hh; exact ⟨hh, hv⟩) | exact hv)) | omega | exact ent (by kernel_rfl) | (intro hgd; exact absurd hgd (by decide)) | rfl | (simp only [go_sem, reduceIte, reduceCtorEq, zA, zM, zE, zL, zD, zS, zP, zB, zI, zR, htl, yac, hnl]; done) | (intro _hgd; simp_all [go_sem]; done)
 refine hK3 _ _ _ ?_; clear hK3
 refine AW.cond rfl (by simp only [go_sem, reduceIte, reduceCtorEq, zA, zM, zE, zL, zD, zS, zP, zB, zI, zR]) ?_ ?_
 ·intro hb
  try simp only [hB, decide_eq_true_eq, decide_eq_false_iff_not] at hb
  exfalso; simp at hb
 ·intro hb
  try simp only [hB, decide_eq_true_eq, decide_eq_false_iff_not] at hb
  refine AW.skip ?_
  refine hK2 _ _ _ ?_; clear hK2
  refine AW.seq fun K4 hK4 => ?_
  refine AW.regionK 0 (fun ii => if ii = 1 then some (.reads false (.tup [.rsl 1 (ints (nats M)), .int .i64 ((0 : Nat) : Int)])) else none) [2, 5] [2] ?_
  simp only [go_sem, reduceIte, reduceCtorEq, zA, zM, zE, zL, zD, zS, zP, zB, zI, zR, htl, yac, hnl]
  repeat with_reducible refine cj ?_ ?_
  all_goals try first | (exact hmb) | omega | exact ent (by kernel_rfl)
  refine hK4 _ _ _ ?_; clear hK4
  refine AW.seq fun K5 hK5 => ?_
  refine AW.seq fun K6 hK6 => ?_
  refine AW.regionK 0 (fun _ => none) [2, 5, 32, 33, 34] [2] ?_
  simp only [go_sem, reduceIte, reduceCtorEq, zA, zM, zE, zL, zD, zS, zP, zB, zI, zR, htl, yac, hnl]
  repeat with_reducible refine cj ?_ ?_
  all_goals try first | omega
  refine hK6 _ _ _ ?_; clear hK6
  refine AW.block ?_
  refine AW.loopE (fun mm ee ss kk => ∃ (j g v : Nat), M.length - j = mm ∧ ee = [(2, .ptr ⟨2, g, none⟩ 0 0), (5, .rsl 1 (ints (nats M))), (32, .rsl 1 (ints (nats M))), (33, .int .i64 M.length), (34, .int .i64 (j : Nat))] ∧ ss = [(2, some ⟨g, v, 1, [[.rsl 2 (tabR t)]]⟩)] ∧ (j ≤ M.length ∧ yn8 t (M.take j) M = true)) ?_ ?_
  ·refine ⟨_, 0, ?_, ?_, rfl, ?henv, ?hstore, ?hst⟩
   case henv =>
    repeat' (first | rfl | refine yaa ?_ ?_ | refine yad ?_ ?_ ?_ ?_ | refine yah ?_ | refine yae ?_ | refine yai ?_ | refine yaj ?_ | refine yan ?_ ?_ ?_ | refine yak ?_ ?_ ?_ | refine yal ?_ | refine yaf ?_ ?_ | refine yab ?_ ?_)
    all_goals (first | (simp; done) | omega | (simp; omega))
   case hstore =>
    repeat' (first | rfl | refine yaa ?_ ?_ | refine yad ?_ ?_ ?_ ?_ | refine yah ?_ | refine yae ?_ | refine yai ?_ | refine yaj ?_ | refine yan ?_ ?_ ?_ | refine yak ?_ ?_ ?_ | refine yal ?_ | refine yaf ?_ ?_ | refine yab ?_ ?_)
    all_goals (first | (simp; done) | omega | (simp; omega))
   case hst =>
    exact ⟨by omega, by simp [yn8]⟩
  rintro mm ee ss kk ⟨j, g, v, rfl, rfl, rfl, hI⟩
  generalize hQl1 : ybd _ _ = Ql1
  obtain ⟨hj, hfr⟩ := hI
  refine AW.seq fun K7 hK7 => ?_
  refine AW.regionK 0 (fun _ => none) [2, 5, 32, 33, 34, 35] [2] ?_
  simp only [go_sem, reduceIte, reduceCtorEq, zA, zM, zE, zL, zD, zS, zP, zB, zI, zR, htl, yac, hnl]
  repeat with_reducible refine cj ?_ ?_
  all_goals try first | omega
  refine hK7 _ _ _ ?_; clear hK7
  refine AW.seq fun K8 hK8 => ?_
  refine AW.cond rfl (by simp only [go_sem, reduceIte, reduceCtorEq, zA, zM, zE, zL, zD, zS, zP, zB, zI, zR]) ?_ ?_
  ·intro hb
   try simp only [hB, decide_eq_true_eq, decide_eq_false_iff_not] at hb
   obtain ⟨x, hx⟩ := getI (l := M) (j := j) (by omega)
   have hgx := ymn hx
   have hxm := List.mem_of_getElem? hx
   have hxn := hmem x hxm
   have htx : M.take (j + 1) = M.take j ++ [x] := by rw [List.take_add_one, hx]; rfl
   refine AW.skip ?_
   refine hK8 _ _ _ ?_; clear hK8
   refine AW.seq fun K9 hK9 => ?_
   refine AW.block ?_
   refine AW.seq fun K10 hK10 => ?_
   refine AW.regionK 0 (fun _ => none) [2, 5, 8, 32, 33, 34] [2] ?_
   simp only [go_sem, reduceIte, reduceCtorEq, zA, zM, zE, zL, zD, zS, zP, zB, zI, zR, htl, yac, hnl, hgx]
   repeat with_reducible refine cj ?_ ?_
   all_goals try first | omega
   refine hK10 _ _ _ ?_; clear hK10
   refine AW.seq fun K11 hK11 => ?_
   refine AW.regionK 0 (fun _ => none) [2, 5, 8, 32, 33, 34, 38, 39, 40] [2] ?_
   simp only [go_sem, reduceIte, reduceCtorEq, zA, zM, zE, zL, zD, zS, zP, zB, zI, zR, htl, yac, hnl]
   repeat with_reducible refine cj ?_ ?_
   all_goals try first | omega
   refine hK11 _ _ _ ?_; clear hK11
   refine AW.block ?_
   refine AW.loopE (fun mm ee ss kk => ∃ (k g v : Nat), M.length - k = mm ∧ ee = [(2, .ptr ⟨2, g, none⟩ 0 0), (5, .rsl 1 (ints (nats M))), (8, .int .i64 (x : Nat)), (32, .rsl 1 (ints (nats M))), (33, .int .i64 M.length), (34, .int .i64 (j : Nat)), (38, .rsl 1 (ints (nats M))), (39, .int .i64 M.length), (40, .int .i64 (k : Nat))] ∧ ss = [(2, some ⟨g, v, 1, [[.rsl 2 (tabR t)]]⟩)] ∧ (k ≤ M.length ∧ ((M.take k).all fun y => !atT t x y) = true)) ?_ ?_
   ·refine ⟨_, 0, ?_, ?_, rfl, ?henv, ?hstore, ?hst⟩
    case henv =>
     repeat' (first | rfl | refine yaa ?_ ?_ | refine yad ?_ ?_ ?_ ?_ | refine yah ?_ | refine yae ?_ | refine yai ?_ | refine yaj ?_ | refine yan ?_ ?_ ?_ | refine yak ?_ ?_ ?_ | refine yal ?_ | refine yaf ?_ ?_ | refine yab ?_ ?_)
     all_goals (first | (simp; done) | omega | (simp; omega))
    case hstore =>
     repeat' (first | rfl | refine yaa ?_ ?_ | refine yad ?_ ?_ ?_ ?_ | refine yah ?_ | refine yae ?_ | refine yai ?_ | refine yaj ?_ | refine yan ?_ ?_ ?_ | refine yak ?_ ?_ ?_ | refine yal ?_ | refine yaf ?_ ?_ | refine yab ?_ ?_)
     all_goals (first | (simp; done) | omega | (simp; omega))
    case hst =>
     exact ⟨by omega, by simp⟩
   rintro mm ee ss kk ⟨k, g, v, rfl, rfl, rfl, hI⟩
   generalize hQl2 : ybd _ _ = Ql2
   obtain ⟨hk, hal⟩ := hI
   refine AW.seq fun K12 hK12 => ?_
   refine AW.regionK 0 (fun _ => none) [2, 5, 8, 32, 33, 34, 38, 39, 40, 41] [2] ?_
   simp only [go_sem, reduceIte, reduceCtorEq, zA, zM, zE, zL, zD, zS, zP, zB, zI, zR, htl, yac, hnl]
   repeat with_reducible refine cj ?_ ?_
   all_goals try first | omega
   refine hK12 _ _ _ ?_; clear hK12
   refine AW.seq fun K13 hK13 => ?_
   refine AW.cond rfl (by simp only [go_sem, reduceIte, reduceCtorEq, zA, zM, zE, zL, zD, zS, zP, zB, zI, zR]) ?_ ?_
   ·intro hb
    try simp only [hB, decide_eq_true_eq, decide_eq_false_iff_not] at hb
    obtain ⟨y, hy⟩ := getI (l := M) (j := k) (by omega)
    have hgy := ymn hy
    have hym := List.mem_of_getElem? hy
    have hyn := hmem y hym
    have hlx := hle (x : Int) (y : Int)
    have hlb : yjb n t (x : Int) (y : Int) = atT t x y := by unfold yjb; rw [decide_eq_true (by omega : (0 : Int) ≤ x), decide_eq_true (by omega : (x : Int) < n), decide_eq_true (by omega : (0 : Int) ≤ y), decide_eq_true (by omega : (y : Int) < n)]; rfl
    rw [hlb] at hlx
    have hats := yeq (p := fun y => !atT t x y) hy
    refine AW.skip ?_
    refine hK13 _ _ _ ?_; clear hK13
    refine AW.seq fun K14 hK14 => ?_
    refine AW.block ?_
    refine AW.seq fun K15 hK15 => ?_
    refine AW.regionK 0 (fun _ => none) [2, 5, 8, 10, 32, 33, 34, 38, 39, 40] [2] ?_
    simp only [go_sem, reduceIte, reduceCtorEq, zA, zM, zE, zL, zD, zS, zP, zB, zI, zR, htl, yac, hnl, hgy]
    repeat with_reducible refine cj ?_ ?_
    all_goals try first | omega
    refine hK15 _ _ _ ?_; clear hK15
    refine AW.seq fun K16 hK16 => ?_
    refine AW.regionK 0 (fun ii => if ii = 3 then some (.reads false (.bool (atT t x y))) else none) [2, 5, 8, 32, 33, 34, 38, 39, 40, 47] [2] ?_
    simp only [go_sem, reduceIte, reduceCtorEq, zA, zM, zE, zL, zD, zS, zP, zB, zI, zR, htl, yac, hnl]
    repeat with_reducible refine cj ?_ ?_
    all_goals try first | (exact hlx) | omega | exact ent (by kernel_rfl)
    refine hK16 _ _ _ ?_; clear hK16
    refine AW.cond rfl (by simp only [go_sem, reduceIte, reduceCtorEq, zA, zM, zE, zL, zD, zS, zP, zB, zI, zR]) ?_ ?_
    ·intro hb
     try simp only [hB, decide_eq_true_eq, decide_eq_false_iff_not] at hb
     refine AW.seq fun K17 hK17 => ?_
     refine AW.regionK 0 (fun _ => none) [4] [] ?_
     simp only [go_sem, reduceIte, reduceCtorEq, zA, zM, zE, zL, zD, zS, zP, zB, zI, zR, htl, yac, hnl]
     repeat with_reducible refine cj ?_ ?_
     all_goals try first | omega
     refine hK17 _ _ _ ?_; clear hK17
     refine AW.ret ?_
     rw [← hQl2]
     rw [← hQl1]
     rw [← hQr]
     simp only [go_sem, reduceIte, reduceCtorEq, zA, zM, zE, zL, zD, zS, zP, zB, zI, zR, htl, yac, hnl]
     exact Wk.of_eq (by rw [ykp hxm hym hb])
    ·intro hb
     try simp only [hB, decide_eq_true_eq, decide_eq_false_iff_not] at hb
     refine AW.skip ?_
     refine hK14 _ _ _ ?_; clear hK14
     refine AW.regionK 0 (fun _ => none) [2, 5, 8, 32, 33, 34, 38, 39, 40] [2] ?_
     simp only [go_sem, reduceIte, reduceCtorEq, zA, zM, zE, zL, zD, zS, zP, zB, zI, zR, htl, yac, hnl]
     repeat with_reducible refine cj ?_ ?_
     all_goals try first | omega
     rw [← hQl2]
     change Exists _
     refine ⟨_, ?hm, k + 1, ?_, ?_, rfl, ?henv, ?hstore, ?hst⟩
     case henv =>
      repeat' (first | rfl | refine yaa ?_ ?_ | refine yad ?_ ?_ ?_ ?_ | refine yah ?_ | refine yae ?_ | refine yai ?_ | refine yaj ?_ | refine yan ?_ ?_ ?_ | refine yak ?_ ?_ ?_ | refine yal ?_ | refine yaf ?_ ?_ | refine yab ?_ ?_)
      all_goals (first | (simp; done) | omega | (simp; omega))
     case hstore =>
      repeat' (first | rfl | refine yaa ?_ ?_ | refine yad ?_ ?_ ?_ ?_ | refine yah ?_ | refine yae ?_ | refine yai ?_ | refine yaj ?_ | refine yan ?_ ?_ ?_ | refine yak ?_ ?_ ?_ | refine yal ?_ | refine yaf ?_ ?_ | refine yab ?_ ?_)
      all_goals (first | (simp; done) | omega | (simp; omega))
     case hst =>
      exact ⟨by omega, by rw [hats, hal, hb]; rfl⟩
     case hm => omega
   ·intro hb
    try simp only [hB, decide_eq_true_eq, decide_eq_false_iff_not] at hb
    have hk2 : k = M.length := by omega
    rw [hk2, List.take_length] at hal
    refine AW.keep [2, 5, 32, 33, 34] [2] ?_
    try simp only [go_sem, reduceIte, reduceCtorEq, zA, zM, zE, zL, zD, zS, zP, zB, zI, zR]
    refine AW.exit ?_
    rw [← hQl2]
    refine hK9 _ _ _ ?_; clear hK9
    refine AW.regionK 0 (fun _ => none) [2, 5, 32, 33, 34] [2] ?_
    simp only [go_sem, reduceIte, reduceCtorEq, zA, zM, zE, zL, zD, zS, zP, zB, zI, zR, htl, yac, hnl]
    repeat with_reducible refine cj ?_ ?_
    all_goals try first | omega
    rw [← hQl1]
    change Exists _
    refine ⟨_, ?hm, j + 1, ?_, ?_, rfl, ?henv, ?hstore, ?hst⟩
    case henv =>
     repeat' (first | rfl | refine yaa ?_ ?_ | refine yad ?_ ?_ ?_ ?_ | refine yah ?_ | refine yae ?_ | refine yai ?_ | refine yaj ?_ | refine yan ?_ ?_ ?_ | refine yak ?_ ?_ ?_ | refine yal ?_ | refine yaf ?_ ?_ | refine yab ?_ ?_)
     all_goals (first | (simp; done) | omega | (simp; omega))
    case hstore =>
     repeat' (first | rfl | refine yaa ?_ ?_ | refine yad ?_ ?_ ?_ ?_ | refine yah ?_ | refine yae ?_ | refine yai ?_ | refine yaj ?_ | refine yan ?_ ?_ ?_ | refine yak ?_ ?_ ?_ | refine yal ?_ | refine yaf ?_ ?_ | refine yab ?_ ?_)
     all_goals (first | (simp; done) | omega | (simp; omega))
    case hst =>
     exact ⟨by omega, by rw [htx]; unfold yn8 at hfr ⊢; rw [List.all_append, hfr]; simpa using hal⟩
    case hm => omega
  ·intro hb
   try simp only [hB, decide_eq_true_eq, decide_eq_false_iff_not] at hb
   refine AW.keep [] [] ?_
   try simp only [go_sem, reduceIte, reduceCtorEq, zA, zM, zE, zL, zD, zS, zP, zB, zI, zR]
   refine AW.exit ?_
   rw [← hQl1]
   refine hK5 _ _ _ ?_; clear hK5
   refine AW.seq fun K18 hK18 => ?_
   refine AW.regionK 0 (fun _ => none) [4] [] ?_
   simp only [go_sem, reduceIte, reduceCtorEq, zA, zM, zE, zL, zD, zS, zP, zB, zI, zR, htl, yac, hnl]
   repeat with_reducible refine cj ?_ ?_
   all_goals try first | omega
   refine hK18 _ _ _ ?_; clear hK18
   refine AW.ret ?_
   rw [← hQr]
   simp only [go_sem, reduceIte, reduceCtorEq, zA, zM, zE, zL, zD, zS, zP, zB, zI, zR, htl, yac, hnl]
   have hj2 : j = M.length := by omega
   rw [hj2, List.take_length] at hfr
   exact Wk.of_eq (by rw [hfr])
def mpL (i : Nat) (l : List Nat) : List (Int × Int) := l.map fun (j : Nat) => ((i : Int), (j : Int))
theorem mpL_row {n : Nat} {t : List (List Bool)} (hs : Sq n t) {i : Nat} (hi : i < n) : mpL i (memB (rowT t i)) = yax t i n := by
 unfold mpL yax memB
 rw [hs.rowLen hi]; rfl
theorem yrx (n : Nat) (t : List (List Bool)) (hs : Sq n t) (hn : n ≤ 512) (hp : poB n t = true) : Reads Tryd.prog 36 false [relB t] (if (yat t n).length ≤ 2000 then .tup [.rsl 2 ((yat t n).map ya6), .int .i64 0] else .tup [.nilsl, .int .i64 9]) := by
 have hpv := yf3 n t hs hn
 rw [hp] at hpv
 have htl : (tabR t).length = n := by rw [ybt, hs.len]
 have hlen := hs.len
 unfold relB at *
 refine Reads.body (rs := [.tmp 2, .tmp 3]) Tryd.func36 rfl Tryd.ntmps36 rfl (by simp) ?_
 generalize hQr : retQ _ _ _ = Qr
 refine AW.seq fun K1 hK1 => ?_
 refine AW.regionK 0 (fun _ => none) [1] [1] ?_
 simp only [go_sem, reduceIte, reduceCtorEq, zA, zM, zE, zL, zD, zS, zP, zB, zI, zR, htl, yac]
 repeat with_reducible refine cj ?_ ?_
 all_goals try first | omega
 refine hK1 _ _ _ ?_; clear hK1
 refine AW.seq fun K2 hK2 => ?_
 refine AW.seq fun K3 hK3 => ?_
 refine AW.regionK 0 (fun ii => if ii = 1 then some (.reads false (.bool true)) else none) [1, 13] [1] ?_
 simp only [go_sem, reduceIte, reduceCtorEq, zA, zM, zE, zL, zD, zS, zP, zB, zI, zR, htl, yac]
 repeat with_reducible refine cj ?_ ?_
 all_goals try first | (exact hpv) | omega | exact ent (by kernel_rfl)
 refine hK3 _ _ _ ?_; clear hK3
 refine AW.cond rfl (by simp only [go_sem, reduceIte, reduceCtorEq, zA, zM, zE, zL, zD, zS, zP, zB, zI, zR]) ?_ ?_
 ·intro hb
  try simp only [hB, decide_eq_true_eq, decide_eq_false_iff_not] at hb
  exfalso; simp at hb
 ·intro hb
  try simp only [hB, decide_eq_true_eq, decide_eq_false_iff_not] at hb
  refine AW.skip ?_
  refine hK2 _ _ _ ?_; clear hK2
  refine AW.seq fun K4 hK4 => ?_
  refine AW.regionK 0 (fun _ => none) [1, 4] [1] ?_
  simp only [go_sem, reduceIte, reduceCtorEq, zA, zM, zE, zL, zD, zS, zP, zB, zI, zR, htl, yac]
  repeat with_reducible refine cj ?_ ?_
  all_goals try first | omega
  refine hK4 _ _ _ ?_; clear hK4
  refine AW.seq fun K5 hK5 => ?_
  refine AW.seq fun K6 hK6 => ?_
  refine AW.regionK 0 (fun _ => none) [4, 15, 16, 17] [] ?_
  simp only [go_sem, reduceIte, reduceCtorEq, zA, zM, zE, zL, zD, zS, zP, zB, zI, zR, htl, yac]
  repeat with_reducible refine cj ?_ ?_
  all_goals try first | omega
  refine hK6 _ _ _ ?_; clear hK6
  refine AW.block ?_
  refine AW.nilOwn 4 200 2 (by simp only [go_sem, reduceIte, zE]) ?_
  refine AW.keep [4, 15, 16, 17] [200] ?_
  simp only [go_sem, reduceIte, zE]
  refine AW.loopE (fun mm ee ss kk => ∃ (i g v : Nat), n - i = mm ∧ ee = [(4, .sl ⟨200, g, none⟩ 0 (yav t n i).length none), (15, .rsl 2 (tabR t)), (16, .int .i64 n), (17, .int .i64 (i : Nat))] ∧ ss = [(200, some ⟨g, v, 2, (yav t n i).map ya6⟩)] ∧ (i ≤ n)) ?_ ?_
  ·refine ⟨_, 0, ?_, ?_, rfl, ?henv, ?hstore, ?hst⟩
   case henv =>
    repeat' (first | rfl | refine yaa ?_ ?_ | refine yad ?_ ?_ ?_ ?_ | refine yah ?_ | refine yae ?_ | refine yai ?_ | refine yaj ?_ | refine yan ?_ ?_ ?_ | refine yak ?_ ?_ ?_ | refine yal ?_ | refine yaf ?_ ?_ | refine yab ?_ ?_)
    all_goals (first | (simp; done) | omega | (simp; omega))
   case hstore =>
    repeat' (first | rfl | refine yaa ?_ ?_ | refine yad ?_ ?_ ?_ ?_ | refine yah ?_ | refine yae ?_ | refine yai ?_ | refine yaj ?_ | refine yan ?_ ?_ ?_ | refine yak ?_ ?_ ?_ | refine yal ?_ | refine yaf ?_ ?_ | refine yab ?_ ?_)
    all_goals (first | (simp; done) | omega | (simp; omega))
   case hst =>
    first | trivial | omega | (simp; done) | (simp; omega)
  rintro mm ee ss kk ⟨i, g, v, rfl, rfl, rfl, hI⟩
  generalize hQl1 : ybd _ _ = Ql1
  refine AW.seq fun K7 hK7 => ?_
  refine AW.regionK 0 (fun _ => none) [4, 15, 16, 17, 18] [200] ?_
  simp only [go_sem, reduceIte, reduceCtorEq, zA, zM, zE, zL, zD, zS, zP, zB, zI, zR, htl, yac]
  repeat with_reducible refine cj ?_ ?_
  all_goals try first | omega
  refine hK7 _ _ _ ?_; clear hK7
  refine AW.seq fun K8 hK8 => ?_
  refine AW.cond rfl (by simp only [go_sem, reduceIte, reduceCtorEq, zA, zM, zE, zL, zD, zS, zP, zB, zI, zR]) ?_ ?_
  ·intro hb
   try simp only [hB, decide_eq_true_eq, decide_eq_false_iff_not] at hb
   have hgr := yeu (t := t) (i := i) (by omega)
   have hrw := hs.rowLen (i := i) (by omega)
   have hmb := yhq (rowT t i) (by omega)
   have hmp := mpL_row hs (i := i) (by omega)
   have hml := yme (rowT t i)
   have hpl := yc1 t n i
   have hmul : n * i ≤ 262144 := Nat.le_trans (Nat.mul_le_mul hn (by omega : i ≤ 512)) (by decide)
   unfold rowB at hmb hgr
   generalize memB (rowT t i) = M at *
   have hnl := yb3 M
   refine AW.skip ?_
   refine hK8 _ _ _ ?_; clear hK8
   refine AW.seq fun K9 hK9 => ?_
   refine AW.block ?_
   refine AW.seq fun K10 hK10 => ?_
   refine AW.regionK 0 (fun _ => none) [4, 5, 6, 15, 16, 17] [6, 200] ?_
   simp only [go_sem, reduceIte, reduceCtorEq, zA, zM, zE, zL, zD, zS, zP, zB, zI, zR, htl, yac, hgr]
   repeat with_reducible refine cj ?_ ?_
   all_goals try first | omega
   refine hK10 _ _ _ ?_; clear hK10
   refine AW.seq fun K11 hK11 => ?_
   refine AW.regionK 0 (fun ii => if ii = 1 then some (.reads false (.tup [.rsl 1 (ints (nats M)), .int .i64 ((0 : Nat) : Int)])) else none) [4, 5, 7, 15, 16, 17] [200] ?_
   simp only [go_sem, reduceIte, reduceCtorEq, zA, zM, zE, zL, zD, zS, zP, zB, zI, zR, htl, yac]
   repeat with_reducible refine cj ?_ ?_
   all_goals try first | (exact hmb) | omega | exact ent (by kernel_rfl)
   refine hK11 _ _ _ ?_; clear hK11
   refine AW.seq fun K12 hK12 => ?_
   refine AW.regionK 0 (fun _ => none) [4, 5, 15, 16, 17, 27, 28, 29] [200] ?_
   simp only [go_sem, reduceIte, reduceCtorEq, zA, zM, zE, zL, zD, zS, zP, zB, zI, zR, htl, yac, hnl]
   repeat with_reducible refine cj ?_ ?_
   all_goals try first | omega
   refine hK12 _ _ _ ?_; clear hK12
   refine AW.block ?_
   refine AW.loopE (fun mm ee ss kk => ∃ (j g v : Nat), M.length - j = mm ∧ ee = [(4, .sl ⟨200, g, none⟩ 0 (yav t n i ++ mpL i (M.take j)).length none), (5, .int .i64 (i : Nat)), (15, .rsl 2 (tabR t)), (16, .int .i64 n), (17, .int .i64 (i : Nat)), (27, .rsl 1 (ints (nats M))), (28, .int .i64 M.length), (29, .int .i64 (j : Nat))] ∧ ss = [(200, some ⟨g, v, 2, (yav t n i ++ mpL i (M.take j)).map ya6⟩)] ∧ (j ≤ M.length)) ?_ ?_
   ·refine ⟨_, 0, ?_, ?_, rfl, ?henv, ?hstore, ?hst⟩
    case henv =>
     repeat' (first | rfl | refine yaa ?_ ?_ | refine yad ?_ ?_ ?_ ?_ | refine yah ?_ | refine yae ?_ | refine yai ?_ | refine yaj ?_ | refine yan ?_ ?_ ?_ | refine yak ?_ ?_ ?_ | refine yal ?_ | refine yaf ?_ ?_ | refine yab ?_ ?_)
     all_goals (simp [mpL])
    case hstore =>
     repeat' (first | rfl | refine yaa ?_ ?_ | refine yad ?_ ?_ ?_ ?_ | refine yah ?_ | refine yae ?_ | refine yai ?_ | refine yaj ?_ | refine yan ?_ ?_ ?_ | refine yak ?_ ?_ ?_ | refine yal ?_ | refine yaf ?_ ?_ | refine yab ?_ ?_)
     all_goals (simp [mpL])
    case hst =>
     first | trivial | omega | (simp; done) | (simp; omega)
   rintro mm ee ss kk ⟨j, g, v, rfl, rfl, rfl, hI⟩
   generalize hQl2 : ybd _ _ = Ql2
   refine AW.seq fun K13 hK13 => ?_
   refine AW.regionK 0 (fun _ => none) [4, 5, 15, 16, 17, 27, 28, 29, 30] [200] ?_
   simp only [go_sem, reduceIte, reduceCtorEq, zA, zM, zE, zL, zD, zS, zP, zB, zI, zR, htl, yac]
   repeat with_reducible refine cj ?_ ?_
   all_goals try first | omega
   refine hK13 _ _ _ ?_; clear hK13
   refine AW.seq fun K14 hK14 => ?_
   refine AW.cond rfl (by simp only [go_sem, reduceIte, reduceCtorEq, zA, zM, zE, zL, zD, zS, zP, zB, zI, zR]) ?_ ?_
   ·intro hb
    try simp only [hB, decide_eq_true_eq, decide_eq_false_iff_not] at hb
    obtain ⟨x, hx⟩ := getI (l := M) (j := j) (by omega)
    have hgx := ymn hx
    have hLs : yav t n i ++ mpL i (M.take (j + 1)) = (yav t n i ++ mpL i (M.take j)) ++ [((i : Int), (x : Int))] := by rw [List.take_add_one, hx]; simp [mpL]
    have hll : (yav t n i ++ mpL i (M.take j)).length ≤ 300000 := by rw [List.length_append]; have : (mpL i (M.take j)).length ≤ M.length := by { unfold mpL; rw [List.length_map, List.length_take]; omega }; omega
    have htk : ((yav t n i ++ mpL i (M.take j)).map ya6).take (yav t n i ++ mpL i (M.take j)).length = (yav t n i ++ mpL i (M.take j)).map ya6 := List.take_of_length_le (by simp)
    have hml2 : ((yav t n i ++ mpL i (M.take j)).map ya6).length = (yav t n i ++ mpL i (M.take j)).length := by simp
    generalize hL : yav t n i ++ mpL i (M.take j) = L at *
    refine AW.skip ?_
    refine hK14 _ _ _ ?_; clear hK14
    refine AW.seq fun K15 hK15 => ?_
    refine AW.block ?_
    refine AW.seq fun K16 hK16 => ?_
    refine AW.regionK 0 (fun _ => none) [4, 5, 10, 15, 16, 17, 27, 28, 29] [200] ?_
    simp only [go_sem, reduceIte, reduceCtorEq, zA, zM, zE, zL, zD, zS, zP, zB, zI, zR, htl, yac, hgx]
    repeat with_reducible refine cj ?_ ?_
    all_goals try first | omega
    refine hK16 _ _ _ ?_; clear hK16
    refine AW.regionK 0 (fun _ => none) [4, 5, 15, 16, 17, 27, 28, 29] [200] ?_
    simp only [go_sem, reduceIte, reduceCtorEq, zA, zM, zE, zL, zD, zS, zP, zB, zI, zR, htl, yac, htk, hml2, yhi]
    repeat with_reducible refine cj ?_ ?_
    all_goals try first | omega | (simp [scP, ybi]; done) | exact ybe _ | exact ybj _ | exact ybf _
    refine hK15 _ _ _ ?_; clear hK15
    refine AW.regionK 0 (fun _ => none) [4, 5, 15, 16, 17, 27, 28, 29] [200] ?_
    simp only [go_sem, reduceIte, reduceCtorEq, zA, zM, zE, zL, zD, zS, zP, zB, zI, zR, htl, yac]
    repeat with_reducible refine cj ?_ ?_
    all_goals try first | omega
    rw [← hQl2]
    change Exists _
    refine ⟨_, ?hm, j + 1, ?_, ?_, rfl, ?henv, ?hstore, ?hst⟩
    case henv =>
     repeat' (first | rfl | refine yaa ?_ ?_ | refine yad ?_ ?_ ?_ ?_ | refine yah ?_ | refine yae ?_ | refine yai ?_ | refine yaj ?_ | refine yan ?_ ?_ ?_ | refine yak ?_ ?_ ?_ | refine yal ?_ | refine yaf ?_ ?_ | refine yab ?_ ?_)
     all_goals (rw [hLs]; simp)
    case hstore =>
     repeat' (first | rfl | refine yaa ?_ ?_ | refine yad ?_ ?_ ?_ ?_ | refine yah ?_ | refine yae ?_ | refine yai ?_ | refine yaj ?_ | refine yan ?_ ?_ ?_ | refine yak ?_ ?_ ?_ | refine yal ?_ | refine yaf ?_ ?_ | refine yab ?_ ?_)
     all_goals (rw [hLs])
    case hst =>
     first | trivial | omega | (simp; done) | (simp; omega)
    case hm => omega
   ·intro hb
    try simp only [hB, decide_eq_true_eq, decide_eq_false_iff_not] at hb
    have hj2 : j = M.length := by omega
    rw [hj2, List.take_length, hmp, ← yck]
    refine AW.exit ?_
    rw [← hQl2]
    refine hK9 _ _ _ ?_; clear hK9
    refine AW.regionK 0 (fun _ => none) [4, 15, 16, 17] [200] ?_
    simp only [go_sem, reduceIte, reduceCtorEq, zA, zM, zE, zL, zD, zS, zP, zB, zI, zR, htl, yac]
    repeat with_reducible refine cj ?_ ?_
    all_goals try first | omega
    rw [← hQl1]
    change Exists _
    refine ⟨_, ?hm, i + 1, ?_, ?_, rfl, ?henv, ?hstore, ?hst⟩
    case henv =>
     repeat' (first | rfl | refine yaa ?_ ?_ | refine yad ?_ ?_ ?_ ?_ | refine yah ?_ | refine yae ?_ | refine yai ?_ | refine yaj ?_ | refine yan ?_ ?_ ?_ | refine yak ?_ ?_ ?_ | refine yal ?_ | refine yaf ?_ ?_ | refine yab ?_ ?_)
     all_goals (first | (simp; done) | omega | (simp; omega))
    case hstore =>
     repeat' (first | rfl | refine yaa ?_ ?_ | refine yad ?_ ?_ ?_ ?_ | refine yah ?_ | refine yae ?_ | refine yai ?_ | refine yaj ?_ | refine yan ?_ ?_ ?_ | refine yak ?_ ?_ ?_ | refine yal ?_ | refine yaf ?_ ?_ | refine yab ?_ ?_)
     all_goals (first | (simp; done) | omega | (simp; omega))
    case hst =>
     first | trivial | omega | (simp; done) | (simp; omega)
    case hm => omega
  ·intro hb
   try simp only [hB, decide_eq_true_eq, decide_eq_false_iff_not] at hb
   have hi2 : i = n := by omega
   subst hi2
   have hpe : yav t i i = yat t i := rfl
   rw [hpe]
   refine AW.exit ?_
   rw [← hQl1]
   refine hK5 _ _ _ ?_; clear hK5
   refine AW.seq fun K17 hK17 => ?_
   refine AW.seq fun K18 hK18 => ?_
   refine AW.regionK 0 (fun _ => none) [4, 43] [200] ?_
   simp only [go_sem, reduceIte, reduceCtorEq, zA, zM, zE, zL, zD, zS, zP, zB, zI, zR, htl, yac]
   repeat with_reducible refine cj ?_ ?_
   all_goals try first | omega
   refine hK18 _ _ _ ?_; clear hK18
   refine AW.cond rfl (by simp only [go_sem, reduceIte, reduceCtorEq, zA, zM, zE, zL, zD, zS, zP, zB, zI, zR]) ?_ ?_
   ·intro hb
    try simp only [hB, decide_eq_true_eq, decide_eq_false_iff_not] at hb
    refine AW.seq fun K19 hK19 => ?_
    refine AW.regionK 0 (fun _ => none) [2, 3] [] ?_
    simp only [go_sem, reduceIte, reduceCtorEq, zA, zM, zE, zL, zD, zS, zP, zB, zI, zR, htl, yac]
    repeat with_reducible refine cj ?_ ?_
    all_goals try first | omega
    refine hK19 _ _ _ ?_; clear hK19
    refine AW.ret ?_
    rw [← hQr]
    simp only [go_sem, reduceIte, reduceCtorEq, zA, zM, zE, zL, zD, zS, zP, zB, zI, zR, htl, yac]
    exact Wk.of_eq (by rw [if_neg (by omega)])
   ·intro hb
    try simp only [hB, decide_eq_true_eq, decide_eq_false_iff_not] at hb
    refine AW.skip ?_
    refine hK17 _ _ _ ?_; clear hK17
    refine AW.seq fun K20 hK20 => ?_
    refine AW.regionK 0 (fun _ => none) [2, 3] [200] ?_
    simp only [go_sem, reduceIte, reduceCtorEq, zA, zM, zE, zL, zD, zS, zP, zB, zI, zR, htl, yac]
    repeat with_reducible refine cj ?_ ?_
    all_goals try first | omega
    refine hK20 _ _ _ ?_; clear hK20
    refine AW.ret ?_
    rw [← hQr]
    simp only [go_sem, reduceIte, reduceCtorEq, zA, zM, zE, zL, zD, zS, zP, zB, zI, zR, htl, yac]
    exact Wk.of_eq (by rw [if_pos (by omega), List.take_of_length_le (by simp)]; simp [ya6, yj9])
end Go.Proofs.W

/- Matchings, covers, and deficiencies. -/
namespace Go.AM
theorem yfp {α : Type} [DecidableEq α] : ∀ {l l' : List α}, l.Nodup → (∀ x ∈ l, x ∈ l') → l.length ≤ l'.length
  | [], _, _, _ => Nat.zero_le _
  | a :: l, l', h, hs => by
    have ha := hs a (by simp)
    obtain ⟨h1, h2⟩ := List.nodup_cons.1 h
    have := yfp (l := l) (l' := l'.erase a) h2 fun x hx => by
      have hne : x ≠ a := fun e => h1 (by rw [← e]; exact hx)
      exact (List.mem_erase_of_ne hne).2 (hs x (by simp [hx]))
    rw [List.length_erase_of_mem ha] at this
    have := List.length_pos_of_mem ha
    simp only [List.length_cons]; omega
def cnt (p : Nat → Bool) (n : Nat) : Nat := ((List.range n).filter p).length
theorem cnt_le (p : Nat → Bool) (n : Nat) : cnt p n ≤ n := by
  have := List.length_filter_le p (List.range n)
  simpa [cnt] using this
theorem yce (p : Nat → Bool) (n : Nat) : cnt p (n + 1) = cnt p n + if p n = true then 1 else 0 := by
  unfold cnt
  rw [List.range_succ, List.filter_append, List.length_append]
  by_cases h : p n = true <;> simp [h]
theorem yfq {p q : Nat → Bool} {n m : Nat} (f : Nat → Nat) (h1 : ∀ i, i < n → p i = true → f i < m ∧ q (f i) = true) (h2 : ∀ i j, i < n → j < n → p i = true → p j = true → f i = f j → i = j) : cnt p n ≤ cnt q m := by
  have := yfp (l := ((List.range n).filter p).map f) (l' := (List.range m).filter q) ?_ ?_
  · rw [List.length_map] at this; exact this
  · refine List.pairwise_map.2 (List.Pairwise.imp_of_mem ?_ (List.Pairwise.sublist List.filter_sublist (List.nodup_range (n := n))))
    intro a b ha hb hab e
    simp only [List.mem_filter, List.mem_range] at ha hb
    exact hab (h2 a b ha.1 hb.1 ha.2 hb.2 e)
  · intro x hx
    obtain ⟨i, hi, rfl⟩ := List.mem_map.1 hx
    simp only [List.mem_filter, List.mem_range] at hi ⊢
    exact h1 i hi.1 hi.2
theorem yey {p q : Nat → Bool} {n : Nat} (h : ∀ i, i < n → p i = true → q i = true) : cnt p n ≤ cnt q n := yfq (fun i => i) (fun i hi hp => ⟨hi, h i hi hp⟩) fun _ _ _ _ _ _ e => e
theorem yhu {p q : Nat → Bool} {n : Nat} (h : ∀ i, i < n → p i = q i) : cnt p n = cnt q n := Nat.le_antisymm (yey fun i hi hp => by rw [← h i hi]; exact hp) (yey fun i hi hp => by rw [h i hi]; exact hp)
theorem yhv (p q : Nat → Bool) : ∀ n, cnt p n = cnt (fun i => p i && q i) n + cnt (fun i => p i && !q i) n
  | 0 => rfl
  | n + 1 => by
    rw [yce, yce, yce, yhv p q n]
    cases p n <;> cases q n <;> simp <;> omega
theorem ymo (p : Nat → Bool) : ∀ n, cnt p n + cnt (fun i => !p i) n = n
  | 0 => rfl
  | n + 1 => by
    have := ymo p n
    rw [yce, yce]
    cases p n <;> simp <;> omega
theorem yim {p q : Nat → Bool} : ∀ {n : Nat}, (∀ i, i < n → p i = true → q i = true) → cnt q n ≤ cnt p n → ∀ i, i < n → q i = true → p i = true
  | 0, _, _, i, hi, _ => by omega
  | n + 1, h, hc, i, hi, hq => by
    have h1 := yey (n := n) fun i hi => h i (by omega)
    rw [yce, yce] at hc
    have hn := h n (by omega)
    by_cases e : i = n
    · subst e
      cases hp : p i with
      | true => rfl
      | false => rw [hp, hq] at hc; simp at hc; omega
    · refine yim (n := n) (fun i hi => h i (by omega)) ?_ i (by omega) hq
      cases hp : p n <;> cases hqn : q n <;> simp [hp, hqn] at hc hn ⊢ <;> omega
theorem yp9 {b : List Bool} : (memB b).length = cnt (fun i => b.getD i false) b.length := rfl
section
variable {n m : Nat} {E : List (Int × Int)} {L R : List Int}
abbrev pL (L : List Int) (i : Nat) : Bool := decide (0 ≤ gi L i)
theorem ymp (hL : L.length = n) (p : Int × Int) : p ∈ prsL L n ↔ ∃ i : Nat, i < n ∧ 0 ≤ gi L i ∧ p = ((i : Int), gi L i) := by
  simp only [prsL, List.mem_map, List.mem_filter, List.mem_range, decide_eq_true_eq]
  constructor
  · rintro ⟨i, ⟨h1, h2⟩, rfl⟩
    rw [yjc (by omega)] at h2 ⊢
    exact ⟨i, h1, h2, rfl⟩
  · rintro ⟨i, h1, h2, rfl⟩
    exact ⟨i, ⟨h1, by rw [yjc (by omega)]; exact h2⟩, by rw [yjc (by omega)]⟩
theorem yqa (hL : L.length = n) : (prsL L n).length = cnt (pL L) n := by
  unfold prsL
  rw [List.length_map]
  exact yhu fun i hi => by rw [yjc (by omega)]
theorem isMat_iff {E P : List (Int × Int)} : yoy E P = true ↔ (∀ p ∈ P, p ∈ E) ∧ (P.map (·.1)).Nodup ∧ (P.map (·.2)).Nodup := by
  simp [yoy]
theorem yry (hM : Mch n m (nbOf n E) L R) (hE : ∀ e ∈ E, yb8 n m e = true) : yoy E (prsL L n) = true := by
  rw [isMat_iff]
  refine ⟨fun p hp => ?_, ?_, ?_⟩
  · obtain ⟨i, h1, h2, rfl⟩ := (ymp hM.hL p).1 hp
    exact (yc5 hE i _).1 (hM.hE i h2)
  · unfold prsL
    rw [List.map_map]
    refine List.pairwise_map.2 (List.Pairwise.imp_of_mem ?_ (List.Pairwise.sublist List.filter_sublist (List.nodup_range (n := n))))
    intro a b _ _ hab e
    simp only [Function.comp] at e
    omega
  · unfold prsL
    rw [List.map_map]
    refine List.pairwise_map.2 (List.Pairwise.imp_of_mem ?_ (List.Pairwise.sublist List.filter_sublist (List.nodup_range (n := n))))
    intro a b ha hb hab e
    have hLl := hM.hL
    simp only [List.mem_filter, List.mem_range, decide_eq_true_eq] at ha hb
    simp only [Function.comp] at e
    rw [yjc (by omega)] at e ha hb
    rw [yjc (by omega)] at e
    have h1 := (hM.hC a (gi L a).toNat).1 (by omega)
    have h2 := (hM.hC b (gi L a).toNat).1 (by omega)
    omega
theorem mch_cnt (hM : Mch n m (nbOf n E) L R) : cnt (pL L) n = cnt (pL R) m := by
  refine Nat.le_antisymm (yfq (fun i => (gi L i).toNat) (fun i hi hp => ?_) fun i j hi hj hp hq e => ?_) (yfq (fun r => (gi R r).toNat) (fun r hr hp => ?_) fun i j hi hj hp hq e => ?_)
  · simp only [pL, decide_eq_true_eq] at hp ⊢
    have h1 := hM.hLm i
    have := (hM.hC i (gi L i).toNat).1 (by omega)
    omega
  · simp only [pL, decide_eq_true_eq] at hp hq
    have h1 := (hM.hC i (gi L i).toNat).1 (by omega)
    have h2 := (hM.hC j (gi L i).toNat).1 (by omega)
    omega
  · simp only [pL, decide_eq_true_eq] at hp ⊢
    have h1 := hM.hRn r
    have := (hM.hC (gi R r).toNat r).2 (by omega)
    omega
  · simp only [pL, decide_eq_true_eq] at hp hq
    have h1 := (hM.hC (gi R i).toNat i).2 (by omega)
    have h2 := (hM.hC (gi R i).toNat j).2 (by omega)
    omega
theorem NoAug.sub {nb : List (List Int)} (h : NoAug nb n L R) : ∀ r, RR nb n L R r → 0 ≤ gi R r := by
  obtain ⟨T, hT, hf⟩ := h
  have hl : ∀ l, RL nb n L R l → ∀ r ∈ nbl nb l, T r.toNat := by
    intro l hl
    induction hl with
    | free a b => exact hf _ a b
    | step a b c ih =>
      have h1 := (hT _ (ih _ b)).2
      rw [c, Int.toNat_natCast] at h1
      exact h1
  rintro r ⟨l, h1, h2⟩
  have := hT _ (hl l h1 _ h2)
  rw [Int.toNat_natCast] at this
  exact this.1
structure Rch (n m : Nat) (E : List (Int × Int)) (L R : List Int) (S T : Nat → Bool) : Prop where
  hM : Mch n m (nbOf n E) L R
  hA : NoAug (nbOf n E) n L R
  hE : ∀ e ∈ E, yb8 n m e = true
  hS : ∀ i, S i = true ↔ RL (nbOf n E) n L R i
  hT : ∀ r, T r = true ↔ RR (nbOf n E) n L R r
variable {S T : Nat → Bool}
theorem Rch.edge (h : Rch n m E L R S T) {e : Int × Int} (he : e ∈ E) (hs : S e.1.toNat = true) : T e.2.toNat = true := by
  have h1 := edgeIn_iff.1 (h.hE e he)
  refine (h.hT _).2 ⟨_, (h.hS _).1 hs, (yc5 h.hE _ _).2 ?_⟩
  rw [Int.toNat_of_nonneg h1.1, Int.toNat_of_nonneg h1.2.2.1]; exact he
theorem Rch.mate (h : Rch n m E L R S T) {r : Nat} (hr : T r = true) : 0 ≤ gi R r ∧ S (gi R r).toNat = true := by
  have h1 := (h.hT r).1 hr
  have h2 := h.hA.sub r h1
  obtain ⟨l, a, b⟩ := h1
  exact ⟨h2, (h.hS _).2 (.step a b (by rw [Int.toNat_natCast]; omega))⟩
theorem Rch.free (h : Rch n m E L R S T) {i : Nat} (hi : i < n) (hs : gi L i < 0) : S i = true := (h.hS i).2 (.free hi hs)
theorem Rch.to (h : Rch n m E L R S T) {i : Nat} (hs : S i = true) (hp : 0 ≤ gi L i) : T (gi L i).toNat = true :=
  (h.hT _).2 ⟨i, (h.hS i).1 hs, by rw [Int.toNat_of_nonneg hp]; exact h.hM.hE i hp⟩
theorem Rch.cntT (h : Rch n m E L R S T) : cnt (fun i => pL L i && S i) n = cnt T m := by
  have hM := h.hM
  refine Nat.le_antisymm (yfq (fun i => (gi L i).toNat) (fun i hi hp => ?_) fun i j hi hj hp hq e => ?_) (yfq (fun r => (gi R r).toNat) (fun r hr hp => ?_) fun i j hi hj hp hq e => ?_)
  · simp only [pL, Bool.and_eq_true, decide_eq_true_eq] at hp
    have h1 := hM.hLm i
    exact ⟨by omega, h.to hp.2 hp.1⟩
  · simp only [pL, Bool.and_eq_true, decide_eq_true_eq] at hp hq
    have h1 := (hM.hC i (gi L i).toNat).1 (by omega)
    have h2 := (hM.hC j (gi L i).toNat).1 (by omega)
    omega
  · have h2 := h.mate hp
    have h1 := hM.hRn r
    have := (hM.hC (gi R r).toNat r).2 (by omega)
    simp only [pL, Bool.and_eq_true, decide_eq_true_eq]
    exact ⟨by omega, by omega, h2.2⟩
  · have h3 := h.mate hp
    have h4 := h.mate hq
    have h1 := (hM.hC (gi R i).toNat i).2 (by omega)
    have h2 := (hM.hC (gi R i).toNat j).2 (by omega)
    omega
theorem Rch.cntS (h : Rch n m E L R S T) : cnt (fun i => pL L i && !S i) n = cnt (fun i => !S i) n :=
  yhu fun i hi => by
    cases hs : S i with
    | true => simp
    | false =>
      by_cases hp : 0 ≤ gi L i
      · simp [hp]
      · have := h.free hi (by omega); rw [hs] at this; cases this
theorem Rch.cover (h : Rch n m E L R S T) : cnt (fun i => !S i) n + cnt T m = cnt (pL L) n := by
  rw [yhv (pL L) S n, h.cntT, h.cntS]; omega
/-- A minimum cover has the right part of the nearest one. -/
theorem Rch.least (h : Rch n m E L R S T) {A B : Nat → Bool} (hc : ∀ e ∈ E, A e.1.toNat = true ∨ B e.2.toNat = true) (hk : cnt A n + cnt B m ≤ cnt (pL L) n) {r : Nat} (hr : T r = true) : B r = true := by
  have hM := h.hM
  have e1 := yhv (pL L) A n
  have e2 : cnt (fun i => pL L i && A i) n ≤ cnt A n := yey fun i _ hp => by simp at hp; exact hp.2
  have e3 : cnt (fun i => pL L i && !A i) n ≤ cnt (fun r => B r && (pL R r && !A (gi R r).toNat)) m := yfq (fun i => (gi L i).toNat) (fun i hi hp => by
    simp only [pL, Bool.and_eq_true, decide_eq_true_eq] at hp
    have h1 := hM.hLm i
    have h2 := (hM.hC i (gi L i).toNat).1 (by omega)
    refine ⟨by omega, ?_⟩
    have he : (((i : Nat) : Int), gi L i) ∈ E := (yc5 h.hE i _).1 (hM.hE i hp.1)
    simp only [pL, Bool.and_eq_true, decide_eq_true_eq, h2, Int.toNat_natCast]
    refine ⟨?_, by omega, hp.2⟩
    rcases hc _ he with h3 | h3
    · simp only [Int.toNat_natCast] at h3
      rw [h3] at hp; simp at hp
    · exact h3) fun i j hi hj hp hq e => by
    simp only [pL, Bool.and_eq_true, decide_eq_true_eq] at hp hq
    have h1 := (hM.hC i (gi L i).toNat).1 (by omega)
    have h2 := (hM.hC j (gi L i).toNat).1 (by omega)
    omega
  have e4 : cnt (fun r => B r && (pL R r && !A (gi R r).toNat)) m ≤ cnt B m := yey fun i _ hp => by
    simp only [Bool.and_eq_true] at hp; exact hp.1
  have f1 := yim (p := fun i => pL L i && A i) (q := A) (n := n) (fun i _ hp => by simp at hp; exact hp.2) (by omega)
  have f2 := yim (p := fun r => B r && (pL R r && !A (gi R r).toNat)) (q := B) (n := m) (fun i _ hp => by simp only [Bool.and_eq_true] at hp; exact hp.1) (by omega)
  have hl : ∀ l, RL (nbOf n E) n L R l → A l = false := by
    intro l hl
    induction hl with
    | @free l a b =>
      cases hA : A l with
      | false => rfl
      | true => have := f1 l a hA; simp [pL] at this; omega
    | @step l r l2 a b c ih =>
      have he := (yc5 h.hE l r).1 b
      have hr := edgeIn_iff.1 (h.hE _ he)
      simp only at hr
      rcases hc _ he with h3 | h3
      · simp only [Int.toNat_natCast] at h3
        rw [h3] at ih; cases ih
      · have := f2 r.toNat (by omega) h3
        simp only [Bool.and_eq_true, Bool.not_eq_true', c, Int.toNat_natCast] at this
        exact this.2.2
  obtain ⟨l, a, b⟩ := (h.hT r).1 hr
  have he := (yc5 h.hE l r).1 b
  rcases hc _ he with h3 | h3
  · simp only [Int.toNat_natCast] at h3
    rw [hl l a] at h3; cases h3
  · simpa using h3
/-- The neighbors of a set. -/
def nbX (E : List (Int × Int)) (X : Nat → Bool) (r : Nat) : Bool := E.any fun e => X e.1.toNat && decide (e.2 = (r : Int))
theorem nbX_iff {X : Nat → Bool} {r : Nat} : nbX E X r = true ↔ ∃ e ∈ E, X e.1.toNat = true ∧ e.2 = (r : Int) := by
  simp [nbX]
theorem Rch.hall (h : Rch n m E L R S T) (X : Nat → Bool) : cnt X n ≤ cnt (nbX E X) m + cnt (fun i => !pL L i) n ∧
    (cnt (nbX E X) m + cnt (fun i => !pL L i) n ≤ cnt X n → ∀ i, S i = true → X i = true) := by
  have hM := h.hM
  have e1 := yhv X (pL L) n
  have e2 : cnt (fun i => X i && !pL L i) n ≤ cnt (fun i => !pL L i) n := yey fun i _ hp => by
    simp only [Bool.and_eq_true] at hp; exact hp.2
  have e3 : cnt (fun i => X i && pL L i) n ≤ cnt (fun r => nbX E X r && (pL R r && X (gi R r).toNat)) m := yfq (fun i => (gi L i).toNat) (fun i hi hp => by
    simp only [pL, Bool.and_eq_true, decide_eq_true_eq] at hp
    have h1 := hM.hLm i
    have h2 := (hM.hC i (gi L i).toNat).1 (by omega)
    have he : (((i : Nat) : Int), gi L i) ∈ E := (yc5 h.hE i _).1 (hM.hE i hp.2)
    refine ⟨by omega, ?_⟩
    simp only [pL, Bool.and_eq_true, decide_eq_true_eq, h2, Int.toNat_natCast]
    exact ⟨nbX_iff.2 ⟨_, he, by simpa using hp.1, by simp only; omega⟩, by omega, hp.1⟩) fun i j hi hj hp hq e => by
    simp only [pL, Bool.and_eq_true, decide_eq_true_eq] at hp hq
    have h1 := (hM.hC i (gi L i).toNat).1 (by omega)
    have h2 := (hM.hC j (gi L i).toNat).1 (by omega)
    omega
  have e4 : cnt (fun r => nbX E X r && (pL R r && X (gi R r).toNat)) m ≤ cnt (nbX E X) m := yey fun i _ hp => by
    simp only [Bool.and_eq_true] at hp; exact hp.1
  refine ⟨by omega, fun hq => ?_⟩
  have f1 := yim (p := fun i => X i && !pL L i) (q := fun i => !pL L i) (n := n) (fun i _ hp => by simp only [Bool.and_eq_true] at hp; exact hp.2) (by omega)
  have f2 := yim (p := fun r => nbX E X r && (pL R r && X (gi R r).toNat)) (q := nbX E X) (n := m) (fun i _ hp => by simp only [Bool.and_eq_true] at hp; exact hp.1) (by omega)
  intro i hi
  have hl := (h.hS i).1 hi
  clear hi
  induction hl with
  | @free l a b =>
    have := f1 l a (by simp [pL]; omega)
    simp only [Bool.and_eq_true] at this
    exact this.1
  | @step l r l2 a b c ih =>
    have he := (yc5 h.hE l r).1 b
    have hr := edgeIn_iff.1 (h.hE _ he)
    simp only at hr
    have := f2 r.toNat (by omega) (nbX_iff.2 ⟨_, he, by simpa using ih, by simp only; omega⟩)
    simp only [Bool.and_eq_true, c, Int.toNat_natCast] at this
    exact this.2.2
end
end Go.AM

/- A given list of pairs, laid as a matching. -/
namespace Go.AM
theorem Mch.join {n m : Nat} {nb : List (List Int)} {L R : List Int} (h : Mch n m nb L R) {a b : Nat} (ha : a < n) (hb : b < m) (hab : (b : Int) ∈ nbl nb a) (h1 : gi L a < 0) (h2 : gi R b < 0) : Mch n m nb (L.set a b) (R.set b a) := by
  have hLl := h.hL
  have hRl := h.hR
  refine ⟨by simp [hLl], by simp [hRl], fun r => ?_, fun l => ?_, fun l r => ?_, fun l hl => ?_⟩
  · rw [ybn]; split
    · omega
    · exact h.hRn r
  · rw [ybn]; split
    · omega
    · exact h.hLm l
  · rw [ybn, ybn]
    have h3 := h.hC l r
    by_cases e1 : a = l
    · subst e1
      rw [if_pos (by omega)]
      by_cases e2 : b = r
      · subst e2; rw [if_pos (by omega)]; simp
      · rw [if_neg (by omega)]
        constructor
        · intro h4; omega
        · intro h4; have := h3.2 h4; omega
    · rw [if_neg (by omega)]
      by_cases e2 : b = r
      · subst e2; rw [if_pos (by omega)]
        constructor
        · intro h4; have := h3.1 h4; omega
        · intro h4; omega
      · rw [if_neg (by omega)]; exact h3
  · rw [ybn] at hl ⊢
    split
    · rename_i e; rw [← e.1]; exact hab
    · rename_i e; rw [if_neg e] at hl; exact h.hE l hl
def ysg (x : List Int × List Int) (p : Int × Int) : List Int × List Int := (x.1.set p.1.toNat p.2, x.2.set p.2.toNat p.1)
def plc (n m : Nat) (P : List (Int × Int)) : List Int × List Int := P.foldl ysg (List.replicate n (-1), List.replicate m (-1))
theorem yqb (n m : Nat) {P : List (Int × Int)} {j : Nat} {p : Int × Int} (hp : P[j]? = some p) : plc n m (P.take (j + 1)) = ((plc n m (P.take j)).1.set p.1.toNat p.2, (plc n m (P.take j)).2.set p.2.toNat p.1) := by
  unfold plc
  rw [List.take_add_one, hp, List.foldl_append]; rfl
structure PlI (n m : Nat) (E P : List (Int × Int)) (x : List Int × List Int) : Prop where
  hM : Mch n m (nbOf n E) x.1 x.2
  hL : ∀ i : Nat, 0 ≤ gi x.1 i ↔ (P.any fun q => decide (q.1 = (i : Int))) = true
  hR : ∀ i : Nat, 0 ≤ gi x.2 i ↔ (P.any fun q => decide (q.2 = (i : Int))) = true
  hp : ∀ p ∈ P, gi x.1 p.1.toNat = p.2
  hE : ∀ p ∈ P, p ∈ E
  h1 : (P.map (·.1)).Nodup
  h2 : (P.map (·.2)).Nodup
theorem plI_nil (n m : Nat) (E : List (Int × Int)) : PlI n m E [] (plc n m []) :=
  ⟨yn7 n m _, fun i => by show 0 ≤ gi (List.replicate n (-1)) i ↔ _; rw [yi2]; simp, fun i => by show 0 ≤ gi (List.replicate m (-1)) i ↔ _; rw [yi2]; simp, fun p h => (by cases h), fun p h => (by cases h), by simp, by simp⟩
theorem plI_snoc {n m : Nat} {E P : List (Int × Int)} {x : List Int × List Int} (hE : ∀ e ∈ E, yb8 n m e = true) (h : PlI n m E P x) {p : Int × Int} (hp : p ∈ E) (h1 : gi x.1 p.1.toNat < 0) (h2 : gi x.2 p.2.toNat < 0) :
    PlI n m E (P ++ [p]) (x.1.set p.1.toNat p.2, x.2.set p.2.toNat p.1) := by
  obtain ⟨q1, q2, q3, q4⟩ := edgeIn_iff.1 (hE p hp)
  obtain ⟨p1, p2⟩ := p
  obtain ⟨a, rfl⟩ : ∃ a : Nat, p1 = a := ⟨p1.toNat, by simp only at q1; omega⟩
  obtain ⟨b, rfl⟩ : ∃ b : Nat, p2 = b := ⟨p2.toNat, by simp only at q3; omega⟩
  simp only [Int.toNat_natCast] at h1 h2 q2 q4 ⊢
  have hLl := h.hM.hL
  have hRl := h.hM.hR
  have n1 : (P.any fun q => decide (q.1 = (a : Int))) = false := by
    cases e : P.any fun q => decide (q.1 = (a : Int)) with
    | false => rfl
    | true => have := (h.hL a).2 e; omega
  have n2 : (P.any fun q => decide (q.2 = (b : Int))) = false := by
    cases e : P.any fun q => decide (q.2 = (b : Int)) with
    | false => rfl
    | true => have := (h.hR b).2 e; omega
  refine ⟨h.hM.join (by omega) (by omega) ((yc5 hE a b).2 hp) h1 h2, fun i => ?_, fun i => ?_, fun q hq => ?_, fun q hq => ?_, ygi h.h1 (by simpa using n1), ygi h.h2 (by simpa using n2)⟩
  · rw [List.any_append]
    simp only [ybn, List.any_cons, List.any_nil, Bool.or_false]
    by_cases e : a = i
    · subst e; rw [if_pos (by omega)]; simp
    · rw [if_neg (by omega), h.hL i]
      have : ¬ (a : Int) = (i : Int) := by omega
      simp [this]
  · rw [List.any_append]
    simp only [ybn, List.any_cons, List.any_nil, Bool.or_false]
    by_cases e : b = i
    · subst e; rw [if_pos (by omega)]; simp
    · rw [if_neg (by omega), h.hR i]
      have : ¬ (b : Int) = (i : Int) := by omega
      simp [this]
  · simp only [ybn]
    rcases List.mem_append.1 hq with hq | hq
    · have h3 := h.hp q hq
      have h4 := edgeIn_iff.1 (hE q (h.hE q hq))
      rw [if_neg]
      · exact h3
      · rintro ⟨e, _⟩
        rw [← e] at h3; omega
    · simp only [List.mem_singleton] at hq
      subst hq
      show (if (a : Int).toNat = (a : Int).toNat ∧ _ then _ else _) = _
      exact if_pos ⟨rfl, by omega⟩
  · rcases List.mem_append.1 hq with hq | hq
    · exact h.hE q hq
    · simp only [List.mem_singleton] at hq; rw [hq]; exact hp
theorem PlI.bad {n m : Nat} {E P : List (Int × Int)} {j : Nat} {p : Int × Int} {x : List Int × List Int} (hE : ∀ e ∈ E, yb8 n m e = true) (h : PlI n m E (P.take j) x) (hp : P[j]? = some p) (hb : p ∉ E ∨ 0 ≤ gi x.1 p.1.toNat ∨ 0 ≤ gi x.2 p.2.toNat) : yoy E P = false := by
  cases hm : yoy E P with
  | false => rfl
  | true =>
    exfalso
    obtain ⟨a1, a2, a3⟩ := isMat_iff.1 hm
    have hpe := a1 p (List.mem_of_getElem? hp)
    have hr := edgeIn_iff.1 (hE p hpe)
    rcases hb with hb | hb | hb
    · exact hb hpe
    · have := (h.hL _).1 hb
      rw [Int.toNat_of_nonneg hr.1] at this
      exact yhs (f := (·.1)) hp this a2
    · have := (h.hR _).1 hb
      rw [Int.toNat_of_nonneg hr.2.2.1] at this
      exact yhs (f := (·.2)) hp this a3
theorem yi3 {α β : Type} {f : α → β} {l : List α} (h : (l.map f).Nodup) : l.Nodup :=
  List.Pairwise.imp (fun h e => h (by rw [e])) (List.pairwise_map.1 h)
theorem PlI.len {n m : Nat} {E P : List (Int × Int)} {x : List Int × List Int} (hE : ∀ e ∈ E, yb8 n m e = true) (h : PlI n m E P x) : P.length = cnt (pL x.1) n := by
  rw [← yqa h.hM.hL]
  refine Nat.le_antisymm (yfp (yi3 h.h1) fun p hp => ?_) (yfp (yi3 (isMat_iff.1 (yry h.hM hE)).2.1) fun p hp => ?_)
  · have h1 := h.hp p hp
    have hr := edgeIn_iff.1 (hE p (h.hE p hp))
    exact (ymp h.hM.hL p).2 ⟨p.1.toNat, by omega, by omega, by rw [h1, Int.toNat_of_nonneg hr.1]⟩
  · obtain ⟨i, h1, h2, rfl⟩ := (ymp h.hM.hL p).1 hp
    have h3 := (h.hL i).1 h2
    rw [List.any_eq_true] at h3
    obtain ⟨q, hq, e⟩ := h3
    rw [decide_eq_true_eq] at e
    have h4 := h.hp q hq
    rw [e, Int.toNat_natCast] at h4
    have : ((i : Int), gi x.1 i) = q := by
      obtain ⟨q1, q2⟩ := q
      simp only at e h4
      rw [e, h4]
    rw [this]; exact hq
end Go.AM

/- Chains out of a matching. -/
namespace Go.AM
theorem plc_pl {n m : Nat} {E : List (Int × Int)} (hE : ∀ e ∈ E, yb8 n m e = true) {P : List (Int × Int)} (hmat : yoy E P = true) : PlI n m E P (plc n m P) := by
  have h : ∀ j, j ≤ P.length → PlI n m E (P.take j) (plc n m (P.take j)) := by
    intro j
    induction j with
    | zero => intro _; exact plI_nil n m E
    | succ j ih =>
      intro hj
      obtain ⟨p, hp⟩ := getI (l := P) (j := j) (by omega)
      have hI := ih (by omega)
      have hbad := hI.bad hE hp
      rw [hmat] at hbad
      have hpe : p ∈ E := Decidable.byContradiction fun h => by cases hbad (.inl h)
      have hl0 : gi (plc n m (P.take j)).1 p.1.toNat < 0 := by by_cases h : 0 ≤ gi (plc n m (P.take j)).1 p.1.toNat; cases hbad (.inr (.inl h)); omega
      have hr0 : gi (plc n m (P.take j)).2 p.2.toNat < 0 := by by_cases h : 0 ≤ gi (plc n m (P.take j)).2 p.2.toNat; cases hbad (.inr (.inr h)); omega
      rw [yqb n m hp, show P.take (j + 1) = P.take j ++ [p] by rw [List.take_add_one, hp]; rfl]
      exact plI_snoc hE hI hpe hl0 hr0
  have := h P.length (Nat.le_refl _)
  rw [List.take_length] at this
  exact this
theorem cnt_lt {p q : Nat → Bool} {n i : Nat} (h : ∀ i, i < n → p i = true → q i = true) (hi : i < n) (hq : q i = true) (hp : p i = false) : cnt p n < cnt q n := by
  by_cases h1 : cnt q n ≤ cnt p n
  · have := yim h h1 i hi hq
    rw [hp] at this; cases this
  · omega
/-- The numbers that no pair ends at. -/
def begF (n : Nat) (l : List (Int × Int)) : List Bool := (List.range n).map fun (i : Nat) => !l.any fun p => decide (p.2 = (i : Int))
theorem yqc (n : Nat) (l : List (Int × Int)) : (begF n l).length = n := by simp [begF]
theorem begF_get {n : Nat} {l : List (Int × Int)} {i : Nat} (h : i < n) : (begF n l).getD i false = !l.any fun p => decide (p.2 = (i : Int)) := by
  unfold begF
  rw [List.getD_eq_getElem?_getD, List.getElem?_map, List.getElem?_range h]; rfl
theorem yqd (n : Nat) : begF n [] = List.replicate n true := by
  unfold begF
  refine List.ext_getElem (by simp) fun i h1 h2 => by simp
theorem begF_snoc {n : Nat} {l : List (Int × Int)} {p : Int × Int} (h : 0 ≤ p.2) : (begF n l).set p.2.toNat false = begF n (l ++ [p]) := by
  refine List.ext_getElem (by simp [begF]) fun i h1 h2 => ?_
  simp only [begF, List.length_set, List.length_map, List.length_range] at h1
  simp only [List.getElem_set, begF, List.getElem_map, List.getElem_range, List.any_append, List.any_cons, List.any_nil, Bool.or_false]
  by_cases e : p.2.toNat = i
  · rw [if_pos e]
    have : p.2 = (i : Int) := by omega
    simp [this]
  · rw [if_neg e]
    have : ¬ p.2 = (i : Int) := by omega
    simp [this]
def chR (N : List Int) : Nat → Int → List Int
  | 0, _ => []
  | f + 1, a => if 0 ≤ a then a :: chR N f (N.getD a.toNat 0) else []
def chAt (N : List Int) (B : List Bool) (n j : Nat) : List (List Int) := ((List.range j).filter fun i => B.getD i false).map fun (i : Nat) => chR N (n + 1) i
theorem chAt_succ (N : List Int) (B : List Bool) (n j : Nat) : chAt N B n (j + 1) = if B.getD j false = true then chAt N B n j ++ [chR N (n + 1) j] else chAt N B n j := by
  unfold chAt
  rw [List.range_succ, List.filter_append, List.map_append]
  by_cases h : B.getD j false = true
  · rw [if_pos h]; simp only [List.filter_cons, h, if_true, List.filter_nil, List.map_cons, List.map_nil]
  · rw [if_neg h]; simp only [List.filter_cons, h, if_false, List.filter_nil, List.map_nil, List.append_nil]; simp
theorem chAt_le (N : List Int) (B : List Bool) (n j : Nat) : (chAt N B n j).length ≤ j := by
  unfold chAt
  rw [List.length_map]
  have := List.length_filter_le (fun i => B.getD i false) (List.range j)
  simpa using this
/-- How many elements are above. -/
def upc (n : Nat) (t : List (List Bool)) (i : Nat) : Nat := cnt (fun j => atT t i j) n
theorem yrz {n : Nat} {t : List (List Bool)} (h : IsPo n t) {i j : Nat} (hi : i < n) (hj : j < n) (hij : atT t i j = true) : upc n t j < upc n t i :=
  cnt_lt (fun k hk hp => h.trans i j k hi hj hk hij hp) hj hij (h.irr j hj)
theorem yqe (n : Nat) (t : List (List Bool)) (i : Nat) : upc n t i ≤ n := cnt_le _ _
end Go.AM

namespace Go.Proofs.W
open Go.AM Go
set_option maxRecDepth 100000
set_option maxHeartbeats 2000000
def repB (a : Bool) (n c : Nat) : List Bool := List.replicate c a ++ List.replicate (n - c) false
theorem bools_drop (l : List Bool) (k : Nat) : (ybc l).drop k = ybc (l.drop k) := by simp [ybc, List.map_drop]
theorem repB_take (a : Bool) {n c : Nat} (h : c ≤ n) : (repB a n c).take c = List.replicate c a := by
 unfold repB; rw [List.take_append_of_le_length (by simp)]; simp
theorem repB_step (a : Bool) {n c : Nat} (h : c ≤ n) : ybc ((repB a n c).take c) ++ ybc (((repB a n c).take c).take (min ((repB a n c).take c).length (n - c))) ++ (ybc (repB a n c)).drop (c + min ((repB a n c).take c).length (n - c)) = ybc (repB a n (c + min (n - c) c)) := by
 rw [repB_take a h, List.length_replicate, List.take_replicate, bools_drop]
 have e : min (min c (n - c)) c = min (n - c) c := by omega
 have e2 : min c (n - c) = min (n - c) c := by omega
 rw [e, e2]
 generalize hm : min (n - c) c = m
 have hd : (repB a n c).drop (c + m) = List.replicate (n - (c + m)) false := by
  unfold repB
  rw [List.drop_append, List.length_replicate, List.drop_of_length_le (by simp), List.drop_replicate, show c + m - c = m by omega, show n - c - m = n - (c + m) by omega]; simp
 rw [hd]
 unfold repB
 simp only [ybc, List.map_append, ← List.replicate_append_replicate, List.append_assoc]
theorem repeatb_u (a : Bool) (n : Nat) (hn : n ≤ 100000) (g0 v0 : Nat) : Upd Tryd.prog 59 [(0, some ⟨g0, v0, 1, ybc [a]⟩)] [.sl ⟨0, g0, none⟩ 0 1 none, .int .i64 n] (fun k => .sl ⟨1, k, none⟩ 0 n none) (fun k => [(1, some ⟨k, k, 1, ybc (List.replicate n a)⟩)]) := by
 have hm := M.mul_r n (by omega)
 have hw := M.wrap_small (z := (n : Int)) (by omega) (by omega)
 have hw1 : IntKind.u64.wrap 1 = 1 := rfl
 have hw2 : IntKind.i64.wrap (n : Int) = n := by simp [IntKind.wrap, IntKind.signed, IntKind.bits]; omega
 have hl1 : (ybc [a]).length = 1 := rfl
 have hz : List.replicate n [AV.bool false] = ybc (List.replicate n false) := by simp [ybc]
 refine Upd.of_body (rs := [.tmp 4]) Tryd.func59 rfl Tryd.ntmps59 rfl (by simp) ?_
 intro k0 k hk0 hk1
 generalize hQr : retQ _ _ _ = Qr
 refine AW.seq fun K1 hK1 => ?_
 refine AW.regionK 100 (fun _ => none) [0, 1] [0] ?_
 simp only [go_sem, reduceIte, reduceCtorEq, zA, zM, zE, zL, zD, zS, zP, zB, zI, zR, hw, hw1, hw2, hl1]
 repeat with_reducible refine cj ?_ ?_
 all_goals try first | omega
 refine hK1 _ _ _ ?_; clear hK1
 refine AW.seq fun K2 hK2 => ?_
 refine AW.seq fun K3 hK3 => ?_
 refine AW.regionK 100 (fun _ => none) [0, 1, 10] [0] ?_
 simp only [go_sem, reduceIte, reduceCtorEq, zA, zM, zE, zL, zD, zS, zP, zB, zI, zR, hw, hw1, hw2, hl1]
 repeat with_reducible refine cj ?_ ?_
 all_goals try first | omega
 refine hK3 _ _ _ ?_; clear hK3
 refine AW.cond rfl (by simp only [go_sem, reduceIte, reduceCtorEq, zA, zM, zE, zL, zD, zS, zP, zB, zI, zR]) ?_ ?_
 ·intro hb
  try simp only [hB, decide_eq_true_eq, decide_eq_false_iff_not] at hb
  exfalso; omega
 ·intro hb
  try simp only [hB, decide_eq_true_eq, decide_eq_false_iff_not] at hb
  refine AW.skip ?_
  refine hK2 _ _ _ ?_; clear hK2
  refine AW.seq fun K4 hK4 => ?_
  refine AW.regionK 100 (fun ii => if ii = 5 then some (.reads false (.tup [.int .u64 0, .int .u64 n])) else none) [0, 5, 6] [0] ?_
  simp only [go_sem, reduceIte, reduceCtorEq, zA, zM, zE, zL, zD, zS, zP, zB, zI, zR, hw, hw1, hw2, hl1]
  repeat with_reducible refine cj ?_ ?_
  all_goals try first | (exact hm) | omega | exact ent (by kernel_rfl)
  refine hK4 _ _ _ ?_; clear hK4
  refine AW.seq fun K5 hK5 => ?_
  refine AW.seq fun K6 hK6 => ?_
  refine AW.regionK 100 (fun _ => none) [0, 6, 26] [0] ?_
  simp only [go_sem, reduceIte, reduceCtorEq, zA, zM, zE, zL, zD, zS, zP, zB, zI, zR, hw, hw1, hw2, hl1]
  repeat with_reducible refine cj ?_ ?_
  all_goals try first | omega | (intros; (repeat' apply And.intro) <;> first | assumption | omega | decide) | (intro hgd; exact absurd hgd (by decide)) | rfl | (simp only [go_sem, reduceIte, reduceCtorEq, zA, zM, zE, zL, zD, zS, zP, zB, zI, zR, hw, hw1, hw2, hl1]; done) | (intro _hgd; simp_all [go_sem]; done)
  refine hK6 _ _ _ ?_; clear hK6
  refine AW.cond rfl (by simp only [go_sem, reduceIte, reduceCtorEq, zA, zM, zE, zL, zD, zS, zP, zB, zI, zR]) ?_ ?_
  ·intro hb
   try simp only [hB, decide_eq_true_eq, decide_eq_false_iff_not] at hb
   exfalso; rcases hb with hb | hb <;> omega
  ·intro hb
   try simp only [hB, decide_eq_true_eq, decide_eq_false_iff_not] at hb
   refine AW.skip ?_
   refine hK5 _ _ _ ?_; clear hK5
   refine AW.seq fun K7 hK7 => ?_
   refine AW.regionK 100 (fun _ => none) [0, 7] [0, 130] ?_
   simp only [go_sem, reduceIte, reduceCtorEq, zA, zM, zE, zL, zD, zS, zP, zB, zI, zR, hw, hw1, hw2, hl1]
   repeat with_reducible refine cj ?_ ?_
   all_goals try first | omega
   refine hK7 _ _ _ ?_; clear hK7
   refine AW.seq fun K8 hK8 => ?_
   refine AW.regionK 100 (fun _ => none) [7, 8] [130] ?_
   simp only [go_sem, reduceIte, reduceCtorEq, zA, zM, zE, zL, zD, zS, zP, zB, zI, zR, hw, hw1, hw2, hl1]
   repeat with_reducible refine cj ?_ ?_
   all_goals try first | omega | (simp [scP, ybi]; done) | exact ybe _ | exact ybj _ | exact ybf _
   refine hK8 _ _ _ ?_; clear hK8
   refine AW.seq fun K9 hK9 => ?_
   refine AW.block ?_
   refine AW.loopE (fun mm ee ss kk => ∃ (c g v : Nat), n - c = mm ∧ ee = [(7, .sl ⟨130, g, none⟩ 0 n none), (8, .int .i64 (c : Nat))] ∧ ss = [(130, some ⟨g, v, 1, ybc (repB a n c)⟩)] ∧ (c ≤ n ∧ (c = 0 → n = 0))) ?_ ?_
   ·refine ⟨_, min 1 n, ?_, ?_, rfl, ?henv, ?hstore, ?hst⟩
    case henv =>
     repeat' (first | rfl | refine yaa ?_ ?_ | refine yad ?_ ?_ ?_ ?_ | refine yah ?_ | refine yae ?_ | refine yai ?_ | refine yaj ?_ | refine yan ?_ ?_ ?_ | refine yak ?_ ?_ ?_ | refine yal ?_ | refine yaf ?_ ?_ | refine yab ?_ ?_)
     all_goals (first | (simp; done) | omega | (simp; omega))
    case hstore =>
     repeat' (first | rfl | refine yaa ?_ ?_ | refine yad ?_ ?_ ?_ ?_ | refine yah ?_ | refine yae ?_ | refine yai ?_ | refine yaj ?_ | refine yan ?_ ?_ ?_ | refine yak ?_ ?_ ?_ | refine yal ?_ | refine yaf ?_ ?_ | refine yab ?_ ?_)
     all_goals (rw [hz]; unfold repB; by_cases h0 : n = 0; (subst h0; rfl); (rw [show min 1 n = 1 by omega]; simp [ybc]))
    case hst =>
     first | trivial | omega | (simp; done) | (simp; omega)
   rintro mm ee ss kk ⟨c, g, v, rfl, rfl, rfl, hI⟩
   generalize hQl1 : ybd _ _ = Ql1
   have hrl : (repB a n c).length = n := by simp [repB]; omega
   refine AW.seq fun K10 hK10 => ?_
   refine AW.seq fun K11 hK11 => ?_
   refine AW.regionK 100 (fun _ => none) [7, 8, 37] [130] ?_
   simp only [go_sem, reduceIte, reduceCtorEq, zA, zM, zE, zL, zD, zS, zP, zB, zI, zR, hw, hw1, hw2, hl1]
   repeat with_reducible refine cj ?_ ?_
   all_goals try first | omega
   refine hK11 _ _ _ ?_; clear hK11
   refine AW.cond rfl (by simp only [go_sem, reduceIte, reduceCtorEq, zA, zM, zE, zL, zD, zS, zP, zB, zI, zR]) ?_ ?_
   ·intro hb
    try simp only [hB, decide_eq_true_eq, decide_eq_false_iff_not] at hb
    refine AW.skip ?_
    refine hK10 _ _ _ ?_; clear hK10
    refine AW.block ?_
    refine AW.regionD yd6 100 (fun _ => none) [7, 8] [130] ?_
    simp only [go_sem, reduceIte, reduceCtorEq, zA, zM, zE, zL, zD, zS, zP, zB, zI, zR, hw, hw1, hw2, hl1]
    repeat with_reducible refine cj ?_ ?_
    all_goals try first | omega | exact chk (by kernel_rfl) | (simp [scP, ybi]; done) | exact ybe _ | exact ybj _ | exact ybf _
    rw [← hQl1]
    change Exists _
    refine ⟨_, ?hm, c + min (n - c) c, ?_, ?_, rfl, ?henv, ?hstore, ?hst⟩
    case henv =>
     repeat' (first | rfl | refine yaa ?_ ?_ | refine yad ?_ ?_ ?_ ?_ | refine yah ?_ | refine yae ?_ | refine yai ?_ | refine yaj ?_ | refine yan ?_ ?_ ?_ | refine yak ?_ ?_ ?_ | refine yal ?_ | refine yaf ?_ ?_ | refine yab ?_ ?_)
     all_goals (first | (simp; done) | omega | (simp; omega))
    case hstore =>
     repeat' (first | rfl | refine yaa ?_ ?_ | refine yad ?_ ?_ ?_ ?_ | refine yah ?_ | refine yae ?_ | refine yai ?_ | refine yaj ?_ | refine yan ?_ ?_ ?_ | refine yak ?_ ?_ ?_ | refine yal ?_ | refine yaf ?_ ?_ | refine yab ?_ ?_)
     all_goals (rw [repB_step a hI.1])
    case hst =>
     first | trivial | omega | (simp; done) | (simp; omega)
    case hm => omega
   ·intro hb
    try simp only [hB, decide_eq_true_eq, decide_eq_false_iff_not] at hb
    refine AW.keep [7] [130] ?_
    try simp only [go_sem, reduceIte, reduceCtorEq, zA, zM, zE, zL, zD, zS, zP, zB, zI, zR]
    refine AW.exit ?_
    rw [← hQl1]
    refine hK9 _ _ _ ?_; clear hK9
    refine AW.seq fun K12 hK12 => ?_
    refine AW.regionK 100 (fun _ => none) [4] [130] ?_
    simp only [go_sem, reduceIte, reduceCtorEq, zA, zM, zE, zL, zD, zS, zP, zB, zI, zR, hw, hw1, hw2, hl1]
    repeat with_reducible refine cj ?_ ?_
    all_goals try first | omega
    refine hK12 _ _ _ ?_; clear hK12
    refine AW.ret ?_
    rw [← hQr]
    simp only [go_sem, reduceIte, reduceCtorEq, zA, zM, zE, zL, zD, zS, zP, zB, zI, zR, hw, hw1, hw2, hl1]
    have hc : c = n := by omega
    subst hc
    have hrc : repB a c c = List.replicate c a := by simp [repB]
    refine ⟨[(130, 1, true)], ?_⟩
    simp only [go_sem, reduceIte, zE, yfy, hrc]
end Go.Proofs.W

namespace Go.Proofs.W
open Go.AM Go
set_option maxRecDepth 100000
set_option maxHeartbeats 2000000
theorem yi4 (t : List (List Bool)) (n : Nat) : (yat t n).Nodup := by
 unfold yat
 have h : ∀ i, (yav t n i).Nodup ∧ ∀ p ∈ yav t n i, p.1 < (i : Int) := by
  intro i
  induction i with
  | zero => exact ⟨by simp [yav], fun p hp => by simp [yav] at hp⟩
  | succ i ih =>
   rw [yck]
   refine ⟨List.nodup_append.2 ⟨ih.1, ?_, ?_⟩, fun p hp => ?_⟩
   ·unfold yax
    refine List.pairwise_map.2 (List.Pairwise.imp (fun {a b} h e => ?_) (List.Pairwise.sublist List.filter_sublist (List.nodup_range (n := n))))
    simp only [Prod.mk.injEq] at e
    exact h (by omega)
   ·intro a ha b hb e
    subst e
    have h1 := ih.2 a ha
    unfold yax at hb
    obtain ⟨j, _, rfl⟩ := List.mem_map.1 hb
    simp at h1
   ·rcases List.mem_append.1 hp with hp | hp
    ·have := ih.2 p hp; omega
    ·unfold yax at hp
     obtain ⟨j, _, rfl⟩ := List.mem_map.1 hp
     simp only; omega
 exact (h n).1
theorem gdT {n : Nat} {t : List (List Bool)} (hn : n ≤ 512) (hl : (yat t n).length ≤ 2000) : M.Gd n n (yat t n) :=
 ⟨hn, hn, hl, fun e he => by obtain ⟨i, j, rfl, h1, h2, _⟩ := pairsT_mem.1 he; exact edgeIn_iff.2 (by simp only; omega), yi4 t n⟩
def nxtT (n : Nat) (t : List (List Bool)) : List Int := (plc n n (M.maxP n n (yat t n))).1
def begT (n : Nat) (t : List (List Bool)) : List Bool := begF n (M.maxP n n (yat t n))
def chainsT (n : Nat) (t : List (List Bool)) : List (List Int) := chAt (nxtT n t) (begT n t) n n
theorem maxP_mat {n m : Nat} {E : List (Int × Int)} (h : M.Gd n m E) : yoy E (M.maxP n m E) = true := yry h.max.1 h.hE
theorem plT {n : Nat} {t : List (List Bool)} (h : M.Gd n n (yat t n)) : PlI n n (yat t n) (M.maxP n n (yat t n)) (plc n n (M.maxP n n (yat t n))) := plc_pl h.hE (maxP_mat h)
theorem nbV_app (l : List (List Int)) (row : List Int) : M.nbV l ++ [[.osl 1 (ints row)]] = M.nbV (l ++ [row]) := by simp [M.nbV]
theorem take_edge {n : Nat} {Q E : List (Int × Int)} (hQ : ∀ p ∈ Q, p ∈ E) (hE : ∀ e ∈ E, yb8 n n e = true) {j : Nat} {p : Int × Int} (hp : Q[j]? = some p) : 0 ≤ p.1 ∧ p.1 < (n : Int) ∧ 0 ≤ p.2 ∧ p.2 < (n : Int) := edgeIn_iff.1 (hE p (hQ p (List.mem_of_getElem? hp)))
theorem yr0 (n m : Nat) (P : List (Int × Int)) : (plc n m P).1.length = n ∧ (plc n m P).2.length = m := by
 unfold plc
 have : ∀ (P : List (Int × Int)) (x : List Int × List Int), x.1.length = n ∧ x.2.length = m → (P.foldl ysg x).1.length = n ∧ (P.foldl ysg x).2.length = m := by
  intro P
  induction P with
  | nil => intro x h; exact h
  | cons p P ih => intro x h; rw [List.foldl_cons]; exact ih _ (by simpa [ysg] using h)
 exact this P _ (by simp)
theorem vwcF_nbV (s : yao) (d : Nat) (nb : List (List Int)) : (M.nbV nb).map (fun cs => cs.map (vwcF s d)) = M.nbR nb := by
 simp [M.nbV, M.nbR, yjh, ypt]
theorem chains_g (n : Nat) (t : List (List Bool)) (hs : Sq n t) (hn : n ≤ 512) (hp : poB n t = true) (hl : (yat t n).length ≤ 2000) : Reads Tryd.prog 28 true [relB t] (.tup [.rsl 1 (M.nbR (chainsT n t)), .int .i64 0]) := by
 have he := yrx n t hs hn hp
 rw [if_pos hl] at he
 have hpo := (ydc hs).1 hp
 have hg := gdT hn hl
 have hmx := M.max_good hg.valid
 have hpl := plT hg
 have hQl : (M.maxP n n (yat t n)).length ≤ n := yrp _ _
 have hmem := fun p => (pairsT_mem (t := t) (n := n) (p := p)).1
 have hr1 := M.repeat_u (-1) n (by omega)
 have hr2 := repeatb_u true n (by omega)
 have htl : (tabR t).length = n := by rw [ybt, hs.len]
 have hQe := hpl.hE
 have hEr := hg.hE
 have hNl := (yr0 n n (M.maxP n n (yat t n))).1
 have hMch := hpl.hM
 have hnbm := fun i r => (yc5 (n := n) hg.hE i r).1
 unfold chainsT nxtT begT
 generalize hQ : M.maxP n n (yat t n) = Q at *
 have hi1 : ints [-1] = [[.int .i64 (-1)]] := rfl
 have hi2 : ybc [true] = [[.bool true]] := rfl
 rw [hi1] at hr1
 rw [hi2] at hr2
 unfold relB at *
 refine Reads.bodyF (rs := [.tmp 2, .tmp 3]) Tryd.func28 rfl Tryd.ntmps28 rfl (by simp) ?_
 generalize hQr : retQ _ _ _ = Qr
 refine AW.seq fun K1 hK1 => ?_
 refine AW.regionK 0 (fun _ => none) [1] [1, 40, 43] ?_
 simp only [go_sem, reduceIte, reduceCtorEq, zA, zM, zE, zL, zD, zS, zP, zB, zI, zR, htl, yac, yap]
 repeat with_reducible refine cj ?_ ?_
 all_goals try first | omega
 refine hK1 _ _ _ ?_; clear hK1
 refine AW.seq fun K2 hK2 => ?_
 refine AW.regionK 0 (fun ii => if ii = 1 then some (.reads false (.tup [.rsl 2 ((yat t n).map ya6), .int .i64 0])) else none) [1, 4, 5] [1, 40, 43] ?_
 simp only [go_sem, reduceIte, reduceCtorEq, zA, zM, zE, zL, zD, zS, zP, zB, zI, zR, htl, yac, yap]
 repeat with_reducible refine cj ?_ ?_
 all_goals try first | (exact he) | omega | exact ent (by kernel_rfl)
 refine hK2 _ _ _ ?_; clear hK2
 refine AW.seq fun K3 hK3 => ?_
 refine AW.seq fun K4 hK4 => ?_
 refine AW.regionK 0 (fun _ => none) [1, 4, 5, 23] [1, 40, 43] ?_
 simp only [go_sem, reduceIte, reduceCtorEq, zA, zM, zE, zL, zD, zS, zP, zB, zI, zR, htl, yac, yap]
 repeat with_reducible refine cj ?_ ?_
 all_goals try first | omega
 refine hK4 _ _ _ ?_; clear hK4
 refine AW.cond rfl (by simp only [go_sem, reduceIte, reduceCtorEq, zA, zM, zE, zL, zD, zS, zP, zB, zI, zR]) ?_ ?_
 ·intro hb
  try simp only [hB, decide_eq_true_eq, decide_eq_false_iff_not] at hb
  exfalso; simp at hb
 ·intro hb
  try simp only [hB, decide_eq_true_eq, decide_eq_false_iff_not] at hb
  refine AW.skip ?_
  refine hK3 _ _ _ ?_; clear hK3
  refine AW.seq fun K5 hK5 => ?_
  refine AW.regionK 0 (fun _ => none) [4, 6] [40, 43] ?_
  simp only [go_sem, reduceIte, reduceCtorEq, zA, zM, zE, zL, zD, zS, zP, zB, zI, zR, htl, yac, yap]
  repeat with_reducible refine cj ?_ ?_
  all_goals try first | omega
  refine hK5 _ _ _ ?_; clear hK5
  refine AW.seq fun K6 hK6 => ?_
  refine AW.regionK 0 (fun ii => if ii = 3 then some (.reads false (.tup [.rsl 2 (Q.map ya6), .int .i64 0])) else none) [5, 6, 7] [40, 43] ?_
  simp only [go_sem, reduceIte, reduceCtorEq, zA, zM, zE, zL, zD, zS, zP, zB, zI, zR, htl, yac, yap]
  repeat with_reducible refine cj ?_ ?_
  all_goals try first | (exact hmx) | omega | exact ent (by kernel_rfl)
  refine hK6 _ _ _ ?_; clear hK6
  refine AW.seq fun K7 hK7 => ?_
  refine AW.seq fun K8 hK8 => ?_
  refine AW.regionK 0 (fun _ => none) [5, 6, 7, 36] [40, 43] ?_
  simp only [go_sem, reduceIte, reduceCtorEq, zA, zM, zE, zL, zD, zS, zP, zB, zI, zR, htl, yac, yap]
  repeat with_reducible refine cj ?_ ?_
  all_goals try first | omega
  refine hK8 _ _ _ ?_; clear hK8
  refine AW.cond rfl (by simp only [go_sem, reduceIte, reduceCtorEq, zA, zM, zE, zL, zD, zS, zP, zB, zI, zR]) ?_ ?_
  ·intro hb
   try simp only [hB, decide_eq_true_eq, decide_eq_false_iff_not] at hb
   exfalso; simp at hb
  ·intro hb
   try simp only [hB, decide_eq_true_eq, decide_eq_false_iff_not] at hb
   refine AW.skip ?_
   refine hK7 _ _ _ ?_; clear hK7
   refine AW.seq fun K9 hK9 => ?_
   refine AW.regionK 0 (fun ii => if ii = 2 then some (.upd [38] (fun k => [(1, some ⟨k, k, 1, ints (List.replicate n (-1))⟩)]) (fun k => .sl ⟨1, k, none⟩ 0 n none)) else none) [6, 7, 8] [40] ?_
   simp only [go_sem, reduceIte, reduceCtorEq, zA, zM, zE, zL, zD, zS, zP, zB, zI, zR, htl, yac, yap]
   repeat with_reducible refine cj ?_ ?_
   all_goals try first | (exact hr1 _ _) | omega | exact ent (by kernel_rfl)
   refine hK9 _ _ _ ?_; clear hK9
   refine AW.seq fun K10 hK10 => ?_
   refine AW.regionK 0 (fun ii => if ii = 2 then some (.upd [41] (fun k => [(1, some ⟨k, k, 1, ybc (List.replicate n true)⟩)]) (fun k => .sl ⟨1, k, none⟩ 0 n none)) else none) [7, 8, 9] [40, 43] ?_
   simp only [go_sem, reduceIte, reduceCtorEq, zA, zM, zE, zL, zD, zS, zP, zB, zI, zR, htl, yac, yap]
   repeat with_reducible refine cj ?_ ?_
   all_goals try first | (exact hr2 _ _) | omega | exact ent (by kernel_rfl)
   refine hK10 _ _ _ ?_; clear hK10
   refine AW.seq fun K11 hK11 => ?_
   refine AW.seq fun K12 hK12 => ?_
   refine AW.regionK 0 (fun _ => none) [8, 9, 44, 45, 46] [40, 43] ?_
   simp only [go_sem, reduceIte, reduceCtorEq, zA, zM, zE, zL, zD, zS, zP, zB, zI, zR, htl, yac, yap]
   repeat with_reducible refine cj ?_ ?_
   all_goals try first | omega
   refine hK12 _ _ _ ?_; clear hK12
   refine AW.block ?_
   refine AW.loopE (fun mm ee ss kk => ∃ (j g1 v1 g2 v2 : Nat), Q.length - j = mm ∧ ee = [(8, .sl ⟨40, g1, none⟩ 0 n none), (9, .sl ⟨43, g2, none⟩ 0 n none), (44, .rsl 2 (Q.map ya6)), (45, .int .i64 Q.length), (46, .int .i64 (j : Nat))] ∧ ss = [(40, some ⟨g1, v1, 1, ints (plc n n (Q.take j)).1⟩), (43, some ⟨g2, v2, 1, ybc (begF n (Q.take j))⟩)] ∧ (j ≤ Q.length)) ?_ ?_
   ·refine ⟨_, 0, ?_, ?_, ?_, ?_, rfl, ?henv, ?hstore, ?hst⟩
    case henv =>
     repeat' (first | rfl | refine yaa ?_ ?_ | refine yad ?_ ?_ ?_ ?_ | refine yah ?_ | refine yae ?_ | refine yai ?_ | refine yaj ?_ | refine yan ?_ ?_ ?_ | refine yak ?_ ?_ ?_ | refine yal ?_ | refine yaf ?_ ?_ | refine yab ?_ ?_)
     all_goals (first | (simp; done) | omega | (simp; omega))
    case hstore =>
     repeat' (first | rfl | refine yaa ?_ ?_ | refine yad ?_ ?_ ?_ ?_ | refine yah ?_ | refine yae ?_ | refine yai ?_ | refine yaj ?_ | refine yan ?_ ?_ ?_ | refine yak ?_ ?_ ?_ | refine yal ?_ | refine yaf ?_ ?_ | refine yab ?_ ?_)
     all_goals (first | rfl | (simp only [List.take_zero, yqd]; done) | (rw [List.take_zero, yqd]))
    case hst =>
     first | trivial | omega | (simp; done) | (simp; omega)
   rintro mm ee ss kk ⟨j, g1, v1, g2, v2, rfl, rfl, rfl, hI⟩
   generalize hQl1 : ybd _ _ = Ql1
   refine AW.seq fun K13 hK13 => ?_
   refine AW.regionK 0 (fun _ => none) [8, 9, 44, 45, 46, 47] [40, 43] ?_
   simp only [go_sem, reduceIte, reduceCtorEq, zA, zM, zE, zL, zD, zS, zP, zB, zI, zR, htl, yac, yap]
   repeat with_reducible refine cj ?_ ?_
   all_goals try first | omega
   refine hK13 _ _ _ ?_; clear hK13
   refine AW.seq fun K14 hK14 => ?_
   refine AW.cond rfl (by simp only [go_sem, reduceIte, reduceCtorEq, zA, zM, zE, zL, zD, zS, zP, zB, zI, zR]) ?_ ?_
   ·intro hb
    try simp only [hB, decide_eq_true_eq, decide_eq_false_iff_not] at hb
    obtain ⟨p, hpj⟩ := getI (l := Q) (j := j) (by omega)
    have hgp := getV (f := ya6) hpj
    have hr := take_edge hQe hEr hpj
    have hts : Q.take (j + 1) = Q.take j ++ [p] := by rw [List.take_add_one, hpj]; rfl
    have hps := yqb n n hpj
    have hp1 : (plc n n (Q.take j)).1.set p.1.toNat p.2 = (plc n n (Q.take (j + 1))).1 := by rw [hps]
    have hbs := begF_snoc (n := n) (l := Q.take j) hr.2.2.1
    rw [← hts] at hbs
    have hnl := (yr0 n n (Q.take j)).1
    have hbl := yqc n (Q.take j)
    have hu1 := ints_upd (plc n n (Q.take j)).1 p.1.toNat p.2
    have hu2 := bools_upd (begF n (Q.take j)) p.2.toNat false
    rw [hp1] at hu1
    rw [hbs] at hu2
    refine AW.skip ?_
    refine hK14 _ _ _ ?_; clear hK14
    refine AW.seq fun K15 hK15 => ?_
    refine AW.block ?_
    refine AW.seq fun K16 hK16 => ?_
    refine AW.regionK 0 (fun _ => none) [8, 9, 11, 44, 45, 46] [11, 40, 43] ?_
    simp only [go_sem, reduceIte, reduceCtorEq, zA, zM, zE, zL, zD, zS, zP, zB, zI, zR, htl, yac, yap, hgp, ya6]
    repeat with_reducible refine cj ?_ ?_
    all_goals try first | omega
    refine hK16 _ _ _ ?_; clear hK16
    refine AW.seq fun K17 hK17 => ?_
    refine AW.regionK 0 (fun _ => none) [8, 9, 11, 44, 45, 46] [11, 40, 43] ?_
    simp only [go_sem, reduceIte, reduceCtorEq, zA, zM, zE, zL, zD, zS, zP, zB, zI, zR, htl, yac, yap, hnl, hu1]
    repeat with_reducible refine cj ?_ ?_
    all_goals try first | omega
    refine hK17 _ _ _ ?_; clear hK17
    refine AW.regionK 0 (fun _ => none) [8, 9, 44, 45, 46] [40, 43] ?_
    simp only [go_sem, reduceIte, reduceCtorEq, zA, zM, zE, zL, zD, zS, zP, zB, zI, zR, htl, yac, yap, hbl, hu2]
    repeat with_reducible refine cj ?_ ?_
    all_goals try first | omega
    refine hK15 _ _ _ ?_; clear hK15
    refine AW.regionK 0 (fun _ => none) [8, 9, 44, 45, 46] [40, 43] ?_
    simp only [go_sem, reduceIte, reduceCtorEq, zA, zM, zE, zL, zD, zS, zP, zB, zI, zR, htl, yac, yap]
    repeat with_reducible refine cj ?_ ?_
    all_goals try first | omega
    rw [← hQl1]
    change Exists _
    refine ⟨_, ?hm, j + 1, ?_, ?_, ?_, ?_, rfl, ?henv, ?hstore, ?hst⟩
    case henv =>
     repeat' (first | rfl | refine yaa ?_ ?_ | refine yad ?_ ?_ ?_ ?_ | refine yah ?_ | refine yae ?_ | refine yai ?_ | refine yaj ?_ | refine yan ?_ ?_ ?_ | refine yak ?_ ?_ ?_ | refine yal ?_ | refine yaf ?_ ?_ | refine yab ?_ ?_)
     all_goals (first | (simp; done) | omega | (simp; omega))
    case hstore =>
     repeat' (first | rfl | refine yaa ?_ ?_ | refine yad ?_ ?_ ?_ ?_ | refine yah ?_ | refine yae ?_ | refine yai ?_ | refine yaj ?_ | refine yan ?_ ?_ ?_ | refine yak ?_ ?_ ?_ | refine yal ?_ | refine yaf ?_ ?_ | refine yab ?_ ?_)
     all_goals (first | (simp; done) | omega | (simp; omega))
    case hst =>
     first | trivial | omega | (simp; done) | (simp; omega)
    case hm => omega
   ·intro hb
    try simp only [hB, decide_eq_true_eq, decide_eq_false_iff_not] at hb
    have hj2 : j = Q.length := by omega
    subst hj2
    rw [List.take_length]
    refine AW.exit ?_
    rw [← hQl1]
    refine hK11 _ _ _ ?_; clear hK11
    refine AW.seq fun K18 hK18 => ?_
    refine AW.regionK 0 (fun _ => none) [8, 9, 12] [40, 43] ?_
    simp only [go_sem, reduceIte, reduceCtorEq, zA, zM, zE, zL, zD, zS, zP, zB, zI, zR, htl, yac, yap]
    repeat with_reducible refine cj ?_ ?_
    all_goals try first | omega
    refine hK18 _ _ _ ?_; clear hK18
    refine AW.seq fun K19 hK19 => ?_
    refine AW.seq fun K20 hK20 => ?_
    refine AW.regionK 0 (fun _ => none) [8, 12, 61, 62, 63] [40, 43] ?_
    simp only [go_sem, reduceIte, reduceCtorEq, zA, zM, zE, zL, zD, zS, zP, zB, zI, zR, htl, yac, yap]
    repeat with_reducible refine cj ?_ ?_
    all_goals try first | omega
    refine hK20 _ _ _ ?_; clear hK20
    refine AW.block ?_
    refine AW.nilOwn 12 200 1 (by simp only [go_sem, reduceIte, zE]) ?_
    refine AW.keep [8, 12, 61, 62, 63] [40, 43, 200] ?_
    simp only [go_sem, reduceIte, zE]
    have hbl := yqc n Q
    generalize hN : (plc n n Q).1 = N at *
    generalize begF n Q = B at *
    refine AW.loopE (fun mm ee ss kk => ∃ (j g1 v1 g2 v2 g v : Nat), n - j = mm ∧ ee = [(8, .sl ⟨40, g1, none⟩ 0 n none), (12, .sl ⟨200, g, none⟩ 0 (chAt N B n j).length none), (61, .sl ⟨43, g2, none⟩ 0 n none), (62, .int .i64 n), (63, .int .i64 (j : Nat))] ∧ ss = [(40, some ⟨g1, v1, 1, ints N⟩), (43, some ⟨g2, v2, 1, ybc B⟩), (200, some ⟨g, v, 1, M.nbV (chAt N B n j)⟩)] ∧ (j ≤ n)) ?_ ?_
    ·refine ⟨_, 0, ?_, ?_, ?_, ?_, ?_, ?_, rfl, ?henv, ?hstore, ?hst⟩
     case henv =>
      repeat' (first | rfl | refine yaa ?_ ?_ | refine yad ?_ ?_ ?_ ?_ | refine yah ?_ | refine yae ?_ | refine yai ?_ | refine yaj ?_ | refine yan ?_ ?_ ?_ | refine yak ?_ ?_ ?_ | refine yal ?_ | refine yaf ?_ ?_ | refine yab ?_ ?_)
      all_goals (first | (simp; done) | omega | (simp; omega))
     case hstore =>
      repeat' (first | rfl | refine yaa ?_ ?_ | refine yad ?_ ?_ ?_ ?_ | refine yah ?_ | refine yae ?_ | refine yai ?_ | refine yaj ?_ | refine yan ?_ ?_ ?_ | refine yak ?_ ?_ ?_ | refine yal ?_ | refine yaf ?_ ?_ | refine yab ?_ ?_)
      all_goals (first | (simp; done) | omega | (simp; omega))
     case hst =>
      first | trivial | omega | (simp; done) | (simp; omega)
    rintro mm ee ss kk ⟨j, g1, v1, g2, v2, g, v, rfl, rfl, rfl, hI⟩
    generalize hQl2 : ybd _ _ = Ql2
    refine AW.seq fun K21 hK21 => ?_
    refine AW.regionK 0 (fun _ => none) [8, 12, 61, 62, 63, 64] [40, 43, 200] ?_
    simp only [go_sem, reduceIte, reduceCtorEq, zA, zM, zE, zL, zD, zS, zP, zB, zI, zR, htl, yac, yap]
    repeat with_reducible refine cj ?_ ?_
    all_goals try first | omega
    refine hK21 _ _ _ ?_; clear hK21
    refine AW.seq fun K22 hK22 => ?_
    refine AW.cond rfl (by simp only [go_sem, reduceIte, reduceCtorEq, zA, zM, zE, zL, zD, zS, zP, zB, zI, zR]) ?_ ?_
    ·intro hb
     try simp only [hB, decide_eq_true_eq, decide_eq_false_iff_not] at hb
     have hgb := yc0 (l := B) (i := j) (by omega)
     have hsu := chAt_succ N B n j
     have hcl := chAt_le N B n j
     have htk : (M.nbV (chAt N B n j)).take (chAt N B n j).length = M.nbV (chAt N B n j) := List.take_of_length_le (by rw [M.nbV_len]; exact Nat.le_refl _)
     have hap := nbV_app (chAt N B n j) (chR N (n + 1) j)
     have hvl := M.nbV_len (chAt N B n j)
     generalize hX : chAt N B n j = X at *
     have hgl := fun x => yrk (M.nbV X) x hvl
     have hsl := fun x y => yrl (M.nbV X) x y hvl
     have hll := fun x => yrm (M.nbV X) x hvl
     refine AW.skip ?_
     refine hK22 _ _ _ ?_; clear hK22
     refine AW.seq fun K23 hK23 => ?_
     refine AW.block ?_
     refine AW.seq fun K24 hK24 => ?_
     refine AW.regionK 0 (fun _ => none) [8, 12, 13, 14, 61, 62, 63] [40, 43, 200] ?_
     simp only [go_sem, reduceIte, reduceCtorEq, zA, zM, zE, zL, zD, zS, zP, zB, zI, zR, htl, yac, yap, hbl, hgb]
     repeat with_reducible refine cj ?_ ?_
     all_goals try first | omega
     refine hK24 _ _ _ ?_; clear hK24
     refine AW.seq fun K25 hK25 => ?_
     refine AW.seq fun K26 hK26 => ?_
     refine AW.regionK 0 (fun _ => none) [8, 12, 13, 61, 62, 63, 69] [40, 43, 200] ?_
     simp only [go_sem, reduceIte, reduceCtorEq, zA, zM, zE, zL, zD, zS, zP, zB, zI, zR, htl, yac, yap]
     repeat with_reducible refine cj ?_ ?_
     all_goals try first | omega
     refine hK26 _ _ _ ?_; clear hK26
     refine AW.cond rfl (by simp only [go_sem, reduceIte, reduceCtorEq, zA, zM, zE, zL, zD, zS, zP, zB, zI, zR]) ?_ ?_
     ·intro hb
      try simp only [hB, decide_eq_true_eq, decide_eq_false_iff_not] at hb
      rw [if_neg (by rw [hb]; simp)] at hsu
      refine AW.exit ?_
      refine hK23 _ _ _ ?_; clear hK23
      refine AW.regionK 0 (fun _ => none) [8, 12, 61, 62, 63] [40, 43, 200] ?_
      simp only [go_sem, reduceIte, reduceCtorEq, zA, zM, zE, zL, zD, zS, zP, zB, zI, zR, htl, yac, yap]
      repeat with_reducible refine cj ?_ ?_
      all_goals try first | omega
      rw [← hQl2]
      change Exists _
      refine ⟨_, ?hm, j + 1, ?_, ?_, ?_, ?_, ?_, ?_, rfl, ?henv, ?hstore, ?hst⟩
      case henv =>
       repeat' (first | rfl | refine yaa ?_ ?_ | refine yad ?_ ?_ ?_ ?_ | refine yah ?_ | refine yae ?_ | refine yai ?_ | refine yaj ?_ | refine yan ?_ ?_ ?_ | refine yak ?_ ?_ ?_ | refine yal ?_ | refine yaf ?_ ?_ | refine yab ?_ ?_)
       all_goals (first | (rw [hsu]; done) | (rw [hsu]; simp; done) | omega | (simp; done))
      case hstore =>
       repeat' (first | rfl | refine yaa ?_ ?_ | refine yad ?_ ?_ ?_ ?_ | refine yah ?_ | refine yae ?_ | refine yai ?_ | refine yaj ?_ | refine yan ?_ ?_ ?_ | refine yak ?_ ?_ ?_ | refine yal ?_ | refine yaf ?_ ?_ | refine yab ?_ ?_)
       all_goals (rw [hsu])
      case hst =>
       first | trivial | omega | (simp; done) | (simp; omega)
      case hm => omega
     ·intro hb
      try simp only [hB, decide_eq_true_eq, decide_eq_false_iff_not] at hb
      rw [if_pos hb] at hsu
      have hup := yqe n t j
      obtain ⟨C, hC⟩ : ∃ C, chR N (n + 1) (j : Int) = C := ⟨_, rfl⟩
      rw [hC] at hsu hap
      refine AW.skip ?_
      refine hK25 _ _ _ ?_; clear hK25
      refine AW.seq fun K27 hK27 => ?_
      refine AW.regionK 0 (fun _ => none) [8, 12, 13, 15, 61, 62, 63] [40, 43, 200] ?_
      simp only [go_sem, reduceIte, reduceCtorEq, zA, zM, zE, zL, zD, zS, zP, zB, zI, zR, htl, yac, yap]
      repeat with_reducible refine cj ?_ ?_
      all_goals try first | omega
      refine hK27 _ _ _ ?_; clear hK27
      refine AW.seq fun K28 hK28 => ?_
      refine AW.seq fun K29 hK29 => ?_
      refine AW.regionK 0 (fun _ => none) [8, 12, 15, 16, 61, 62, 63] [40, 43, 200] ?_
      simp only [go_sem, reduceIte, reduceCtorEq, zA, zM, zE, zL, zD, zS, zP, zB, zI, zR, htl, yac, yap]
      repeat with_reducible refine cj ?_ ?_
      all_goals try first | omega
      refine hK29 _ _ _ ?_; clear hK29
      refine AW.block ?_
      refine AW.nilOwn 15 201 1 (by simp only [go_sem, reduceIte, zE]) ?_
      refine AW.keep [8, 12, 15, 16, 61, 62, 63] [40, 43, 200, 201] ?_
      simp only [go_sem, reduceIte, zE]
      refine AW.loopE (fun mm ee ss kk => ∃ (fu g1 v1 g2 v2 g v g3 v3 : Nat) (a : Int) (acc : List Int), fu + 1 = mm ∧ ee = [(8, .sl ⟨40, g1, none⟩ 0 n none), (12, .sl ⟨200, g, none⟩ 0 X.length none), (15, .sl ⟨201, g3, none⟩ 0 acc.length none), (16, .int .i64 a), (61, .sl ⟨43, g2, none⟩ 0 n none), (62, .int .i64 n), (63, .int .i64 (j : Nat))] ∧ ss = [(40, some ⟨g1, v1, 1, ints N⟩), (43, some ⟨g2, v2, 1, ybc B⟩), (200, some ⟨g, v, 1, M.nbV X⟩), (201, some ⟨g3, v3, 1, ints acc⟩)] ∧ (acc ++ chR N fu a = C ∧ acc.length + fu ≤ n + 1 ∧ (0 ≤ a → a < n ∧ upc n t a.toNat < fu))) ?_ ?_
      ·refine ⟨_, (n + 1), ?_, ?_, ?_, ?_, ?_, ?_, ?_, ?_, (j : Int), [], rfl, ?henv, ?hstore, ?hst⟩
       case henv =>
        repeat' (first | rfl | refine yaa ?_ ?_ | refine yad ?_ ?_ ?_ ?_ | refine yah ?_ | refine yae ?_ | refine yai ?_ | refine yaj ?_ | refine yan ?_ ?_ ?_ | refine yak ?_ ?_ ?_ | refine yal ?_ | refine yaf ?_ ?_ | refine yab ?_ ?_)
        all_goals (first | (simp; done) | omega | (simp; omega))
       case hstore =>
        repeat' (first | rfl | refine yaa ?_ ?_ | refine yad ?_ ?_ ?_ ?_ | refine yah ?_ | refine yae ?_ | refine yai ?_ | refine yaj ?_ | refine yan ?_ ?_ ?_ | refine yak ?_ ?_ ?_ | refine yal ?_ | refine yaf ?_ ?_ | refine yab ?_ ?_)
        all_goals (first | (simp; done) | omega | (simp; omega))
       case hst =>
        exact ⟨by simpa using hC, by simp, fun _ => ⟨by omega, by rw [Int.toNat_natCast]; omega⟩⟩
      rintro mm ee ss kk ⟨fu, g1, v1, g2, v2, g, v, g3, v3, a, acc, rfl, rfl, rfl, hI⟩
      generalize hQl3 : ybd _ _ = Ql3
      obtain ⟨hcc, hal, hau⟩ := hI
      refine AW.seq fun K30 hK30 => ?_
      refine AW.seq fun K31 hK31 => ?_
      refine AW.regionK 0 (fun _ => none) [8, 12, 15, 16, 61, 62, 63, 72] [40, 43, 200, 201] ?_
      simp only [go_sem, reduceIte, reduceCtorEq, zA, zM, zE, zL, zD, zS, zP, zB, zI, zR, htl, yac, yap]
      repeat with_reducible refine cj ?_ ?_
      all_goals try first | omega
      refine hK31 _ _ _ ?_; clear hK31
      refine AW.cond rfl (by simp only [go_sem, reduceIte, reduceCtorEq, zA, zM, zE, zL, zD, zS, zP, zB, zI, zR]) ?_ ?_
      ·intro hb
       try simp only [hB, decide_eq_true_eq, decide_eq_false_iff_not] at hb
       obtain ⟨han, hauc⟩ := hau hb
       obtain ⟨fu, rfl⟩ : ∃ f, fu = f + 1 := ⟨fu - 1, by omega⟩
       unfold chR at hcc
       rw [if_pos hb] at hcc
       have hgn := ybv (l := N) (i := a.toNat) (by omega)
       have hak : (ints acc).take acc.length = ints acc := List.take_of_length_le (by rw [yac]; exact Nat.le_refl _)
       have has : ints acc ++ [[.int .i64 a]] = ints (acc ++ [a]) := by simp [ints]
       have hnx : 0 ≤ N.getD a.toNat 0 → N.getD a.toNat 0 < n ∧ upc n t (N.getD a.toNat 0).toNat < fu := fun h0 => by
        rw [yjc (by omega)] at h0 ⊢
        have h1 := hMch.hE a.toNat h0
        obtain ⟨i, k, e, hi, hk, hik⟩ := hmem _ (hnbm _ _ h1)
        simp only [Prod.mk.injEq] at e
        have e1 : a.toNat = i := by omega
        have e2 : (gi N a.toNat).toNat = k := by omega
        have h2 := yrz hpo hi hk hik
        rw [e2]
        rw [e1] at hauc
        exact ⟨by omega, by omega⟩
       refine AW.skip ?_
       refine hK30 _ _ _ ?_; clear hK30
       refine AW.seq fun K32 hK32 => ?_
       refine AW.block ?_
       refine AW.regionK 0 (fun _ => none) [8, 12, 15, 16, 61, 62, 63] [40, 43, 200, 201] ?_
       simp only [go_sem, reduceIte, reduceCtorEq, zA, zM, zE, zL, zD, zS, zP, zB, zI, zR, htl, yac, yap, hak, has]
       repeat with_reducible refine cj ?_ ?_
       all_goals try first | omega | (simp [scP, ybi]; done) | exact ybe _ | exact ybj _ | exact ybf _
       refine hK32 _ _ _ ?_; clear hK32
       refine AW.regionK 0 (fun _ => none) [8, 12, 15, 16, 61, 62, 63] [40, 43, 200, 201] ?_
       simp only [go_sem, reduceIte, reduceCtorEq, zA, zM, zE, zL, zD, zS, zP, zB, zI, zR, htl, yac, yap, hNl, hgn]
       repeat with_reducible refine cj ?_ ?_
       all_goals try first | omega
       rw [← hQl3]
       change Exists _
       refine ⟨_, ?hm, fu, ?_, ?_, ?_, ?_, ?_, ?_, ?_, ?_, ?_, acc ++ [a], rfl, ?henv, ?hstore, ?hst⟩
       case henv =>
        repeat' (first | rfl | refine yaa ?_ ?_ | refine yad ?_ ?_ ?_ ?_ | refine yah ?_ | refine yae ?_ | refine yai ?_ | refine yaj ?_ | refine yan ?_ ?_ ?_ | refine yak ?_ ?_ ?_ | refine yal ?_ | refine yaf ?_ ?_ | refine yab ?_ ?_)
        all_goals (first | (simp; done) | omega | (simp; omega))
       case hstore =>
        repeat' (first | rfl | refine yaa ?_ ?_ | refine yad ?_ ?_ ?_ ?_ | refine yah ?_ | refine yae ?_ | refine yai ?_ | refine yaj ?_ | refine yan ?_ ?_ ?_ | refine yak ?_ ?_ ?_ | refine yal ?_ | refine yaf ?_ ?_ | refine yab ?_ ?_)
        all_goals (first | (simp; done) | omega | (simp; omega))
       case hst =>
        exact ⟨by rw [List.append_assoc]; exact hcc, by rw [List.length_append]; simp; omega, hnx⟩
       case hm => omega
      ·intro hb
       try simp only [hB, decide_eq_true_eq, decide_eq_false_iff_not] at hb
       have hC2 : acc = C := by
        rw [← hcc]
        cases fu with
        | zero => simp [chR]
        | succ f => unfold chR; rw [if_neg (by omega)]; simp
       have hal2 : acc.length ≤ 100000 := by omega
       clear hcc
       subst hC2
       refine AW.exit ?_
       rw [← hQl3]
       refine hK28 _ _ _ ?_; clear hK28
       refine AW.regionK 0 (fun _ => none) [8, 12, 61, 62, 63] [40, 43, 200, 201] ?_
       simp only [go_sem, reduceIte, reduceCtorEq, zA, zM, zE, zL, zD, zS, zP, zB, zI, zR, htl, yac, yap, htk, hvl]
       repeat with_reducible refine cj ?_ ?_
       all_goals try first | omega | (simp [scP, ybi]; done) | exact ybe _ | exact ybj _ | exact ybf _
       refine hK23 _ _ _ ?_; clear hK23
       refine AW.adoptK 200 X.length 0 201 ?_
       simp only [go_sem, reduceIte, zE, hgl, hsl, hll]
       repeat refine cj ?_ ?_
       any_goals first | exact yk9 _ | decide | (rw [yac]; done) | omega
       refine AW.keep [8, 12, 61, 62, 63] [40, 43, 200] ?_
       simp only [go_sem, reduceIte, zE, hap]
       refine AW.regionK 0 (fun _ => none) [8, 12, 61, 62, 63] [40, 43, 200] ?_
       simp only [go_sem, reduceIte, reduceCtorEq, zA, zM, zE, zL, zD, zS, zP, zB, zI, zR, htl, yac, yap]
       repeat with_reducible refine cj ?_ ?_
       all_goals try first | omega
       rw [← hQl2]
       change Exists _
       refine ⟨_, ?hm, j + 1, ?_, ?_, ?_, ?_, ?_, ?_, rfl, ?henv, ?hstore, ?hst⟩
       case henv =>
        repeat' (first | rfl | refine yaa ?_ ?_ | refine yad ?_ ?_ ?_ ?_ | refine yah ?_ | refine yae ?_ | refine yai ?_ | refine yaj ?_ | refine yan ?_ ?_ ?_ | refine yak ?_ ?_ ?_ | refine yal ?_ | refine yaf ?_ ?_ | refine yab ?_ ?_)
        all_goals (first | (rw [hsu]; done) | (rw [hsu]; simp; done) | omega | (simp; done))
       case hstore =>
        repeat' (first | rfl | refine yaa ?_ ?_ | refine yad ?_ ?_ ?_ ?_ | refine yah ?_ | refine yae ?_ | refine yai ?_ | refine yaj ?_ | refine yan ?_ ?_ ?_ | refine yak ?_ ?_ ?_ | refine yal ?_ | refine yaf ?_ ?_ | refine yab ?_ ?_)
        all_goals (rw [hsu])
       case hst =>
        first | trivial | omega | (simp; done) | (simp; omega)
       case hm => omega
    ·intro hb
     try simp only [hB, decide_eq_true_eq, decide_eq_false_iff_not] at hb
     have hj2 : j = n := by omega
     subst hj2
     have htk : (M.nbV (chAt N B j j)).take (chAt N B j j).length = M.nbV (chAt N B j j) := List.take_of_length_le (by rw [M.nbV_len]; exact Nat.le_refl _)
     refine AW.exit ?_
     rw [← hQl2]
     refine hK19 _ _ _ ?_; clear hK19
     refine AW.seq fun K33 hK33 => ?_
     refine AW.regionK 0 (fun _ => none) [2, 3] [200] ?_
     simp only [go_sem, reduceIte, reduceCtorEq, zA, zM, zE, zL, zD, zS, zP, zB, zI, zR, htl, yac, yap]
     repeat with_reducible refine cj ?_ ?_
     all_goals try first | omega
     refine hK33 _ _ _ ?_; clear hK33
     refine AW.ret ?_
     rw [← hQr]
     simp only [go_sem, reduceIte, reduceCtorEq, zA, zM, zE, zL, zD, zS, zP, zB, zI, zR, htl, yac, yap]
     exact Wk.of_eq (by simp only [htk, vwcF_nbV])
end Go.Proofs.W

namespace Go.Proofs.W
open Go.AM Go
set_option maxRecDepth 100000
set_option maxHeartbeats 2000000
theorem ykq (n : Nat) (t : List (List Bool)) (hs : Sq n t) (hn : n ≤ 512) (hp : poB n t = true) (hl : (yat t n).length ≤ 2000) : Reads Tryd.prog 12 false [relB t] (.tup [.int .i64 ((chainsT n t).length : Nat), .int .i64 0]) := by
 have he := (chains_g n t hs hn hp hl).old
 have hnl := M.nbR_len (chainsT n t)
 unfold relB at *
 generalize chainsT n t = C at *
 refine Reads.body (rs := [.tmp 2, .tmp 3]) Tryd.func12 rfl Tryd.ntmps12 rfl (by simp) ?_
 generalize hQr : retQ _ _ _ = Qr
 refine AW.seq fun K1 hK1 => ?_
 refine AW.regionK 0 (fun _ => none) [1] [1] ?_
 simp only [go_sem, reduceIte, reduceCtorEq, zA, zM, zE, zL, zD, zS, zP, zB, zI, zR, hnl]
 repeat with_reducible refine cj ?_ ?_
 all_goals try first | omega
 refine hK1 _ _ _ ?_; clear hK1
 refine AW.seq fun K2 hK2 => ?_
 refine AW.regionK 0 (fun ii => if ii = 1 then some (.reads false (.tup [.rsl 1 (M.nbR C), .int .i64 0])) else none) [4, 5] [] ?_
 simp only [go_sem, reduceIte, reduceCtorEq, zA, zM, zE, zL, zD, zS, zP, zB, zI, zR, hnl]
 repeat with_reducible refine cj ?_ ?_
 all_goals try first | (exact he) | omega | exact ent (by kernel_rfl)
 refine hK2 _ _ _ ?_; clear hK2
 refine AW.seq fun K3 hK3 => ?_
 refine AW.regionK 0 (fun _ => none) [2, 3] [] ?_
 simp only [go_sem, reduceIte, reduceCtorEq, zA, zM, zE, zL, zD, zS, zP, zB, zI, zR, hnl]
 repeat with_reducible refine cj ?_ ?_
 all_goals try first | omega
 refine hK3 _ _ _ ?_; clear hK3
 refine AW.ret ?_
 rw [← hQr]
 simp only [go_sem, reduceIte, reduceCtorEq, zA, zM, zE, zL, zD, zS, zP, zB, zI, zR, hnl]
 exact Wk.refl _
/-- The greatest of the first j + 1 numbers. -/
def mxU (l : List Int) : Nat → Int
 | 0 => l.getD 0 0
 | j + 1 => max (mxU l j) (l.getD (j + 1) 0)
theorem max_r (l : List Int) (hl : l.length ≤ 100000) (h0 : 1 ≤ l.length) : Reads Tryd.prog 38 false [.rsl 1 (ints l)] (.int .i64 (mxU l (l.length - 1))) := by
 have hg0 := ybv (l := l) (i := 0) (by omega)
 refine Reads.body (rs := [.tmp 2]) Tryd.func38 rfl Tryd.ntmps38 rfl (by simp) ?_
 generalize hQr : retQ _ _ _ = Qr
 refine AW.seq fun K1 hK1 => ?_
 refine AW.regionK 0 (fun _ => none) [0] [] ?_
 simp only [go_sem, reduceIte, reduceCtorEq, zA, zM, zE, zL, zD, zS, zP, zB, zI, zR, yac]
 repeat with_reducible refine cj ?_ ?_
 all_goals try first | omega
 refine hK1 _ _ _ ?_; clear hK1
 refine AW.seq fun K2 hK2 => ?_
 refine AW.seq fun K3 hK3 => ?_
 refine AW.regionK 0 (fun _ => none) [0, 7] [] ?_
 simp only [go_sem, reduceIte, reduceCtorEq, zA, zM, zE, zL, zD, zS, zP, zB, zI, zR, yac]
 repeat with_reducible refine cj ?_ ?_
 all_goals try first | omega
 refine hK3 _ _ _ ?_; clear hK3
 refine AW.cond rfl (by simp only [go_sem, reduceIte, reduceCtorEq, zA, zM, zE, zL, zD, zS, zP, zB, zI, zR]) ?_ ?_
 ·intro hb
  try simp only [hB, decide_eq_true_eq, decide_eq_false_iff_not] at hb
  exfalso; omega
 ·intro hb
  try simp only [hB, decide_eq_true_eq, decide_eq_false_iff_not] at hb
  refine AW.skip ?_
  refine hK2 _ _ _ ?_; clear hK2
  refine AW.seq fun K4 hK4 => ?_
  refine AW.regionK 0 (fun _ => none) [0, 3] [] ?_
  simp only [go_sem, reduceIte, reduceCtorEq, zA, zM, zE, zL, zD, zS, zP, zB, zI, zR, yac, hg0]
  repeat with_reducible refine cj ?_ ?_
  all_goals try first | omega
  refine hK4 _ _ _ ?_; clear hK4
  refine AW.seq fun K5 hK5 => ?_
  refine AW.seq fun K6 hK6 => ?_
  refine AW.regionK 0 (fun _ => none) [0, 3, 4] [] ?_
  simp only [go_sem, reduceIte, reduceCtorEq, zA, zM, zE, zL, zD, zS, zP, zB, zI, zR, yac]
  repeat with_reducible refine cj ?_ ?_
  all_goals try first | omega
  refine hK6 _ _ _ ?_; clear hK6
  refine AW.block ?_
  refine AW.loopE (fun mm ee ss kk => ∃ (j : Nat), l.length - j = mm ∧ ee = [(0, .rsl 1 (ints l)), (3, .int .i64 (mxU l j)), (4, .int .i64 ((j + 1 : Nat) : Int))] ∧ ss = [] ∧ (j + 1 ≤ l.length)) ?_ ?_
  ·refine ⟨_, 0, rfl, ?henv, ?hstore, ?hst⟩
   case henv =>
    repeat' (first | rfl | refine yaa ?_ ?_ | refine yad ?_ ?_ ?_ ?_ | refine yah ?_ | refine yae ?_ | refine yai ?_ | refine yaj ?_ | refine yan ?_ ?_ ?_ | refine yak ?_ ?_ ?_ | refine yal ?_ | refine yaf ?_ ?_ | refine yab ?_ ?_)
    all_goals (first | (simp; done) | omega | (simp; omega))
   case hstore =>
    repeat' (first | rfl | refine yaa ?_ ?_ | refine yad ?_ ?_ ?_ ?_ | refine yah ?_ | refine yae ?_ | refine yai ?_ | refine yaj ?_ | refine yan ?_ ?_ ?_ | refine yak ?_ ?_ ?_ | refine yal ?_ | refine yaf ?_ ?_ | refine yab ?_ ?_)
    all_goals (first | (simp; done) | omega | (simp; omega))
   case hst =>
    first | trivial | omega | (simp; done) | (simp; omega)
  rintro mm ee ss kk ⟨j, rfl, rfl, rfl, hI⟩
  generalize hQl1 : ybd _ _ = Ql1
  refine AW.seq fun K7 hK7 => ?_
  refine AW.seq fun K8 hK8 => ?_
  refine AW.regionK 0 (fun _ => none) [0, 3, 4, 15] [] ?_
  simp only [go_sem, reduceIte, reduceCtorEq, zA, zM, zE, zL, zD, zS, zP, zB, zI, zR, yac]
  repeat with_reducible refine cj ?_ ?_
  all_goals try first | omega
  refine hK8 _ _ _ ?_; clear hK8
  refine AW.cond rfl (by simp only [go_sem, reduceIte, reduceCtorEq, zA, zM, zE, zL, zD, zS, zP, zB, zI, zR]) ?_ ?_
  ·intro hb
   try simp only [hB, decide_eq_true_eq, decide_eq_false_iff_not] at hb
   have hgj := ybv (l := l) (i := j + 1) (by omega)
   have e1 : ((j + 1 : Nat) : Int).toNat = j + 1 := by omega
   have hsu : mxU l (j + 1) = max (mxU l j) (l.getD (j + 1) 0) := rfl
   refine AW.skip ?_
   refine hK7 _ _ _ ?_; clear hK7
   refine AW.seq fun K9 hK9 => ?_
   refine AW.block ?_
   refine AW.regionK 0 (fun _ => none) [0, 3, 4] [] ?_
   simp only [go_sem, reduceIte, reduceCtorEq, zA, zM, zE, zL, zD, zS, zP, zB, zI, zR, yac, hgj, e1]
   repeat with_reducible refine cj ?_ ?_
   all_goals try first | omega
   refine hK9 _ _ _ ?_; clear hK9
   refine AW.regionK 0 (fun _ => none) [0, 3, 4] [] ?_
   simp only [go_sem, reduceIte, reduceCtorEq, zA, zM, zE, zL, zD, zS, zP, zB, zI, zR, yac]
   repeat with_reducible refine cj ?_ ?_
   all_goals try first | omega
   rw [← hQl1]
   change Exists _
   refine ⟨_, ?hm, j + 1, rfl, ?henv, ?hstore, ?hst⟩
   case henv =>
    repeat' (first | rfl | refine yaa ?_ ?_ | refine yad ?_ ?_ ?_ ?_ | refine yah ?_ | refine yae ?_ | refine yai ?_ | refine yaj ?_ | refine yan ?_ ?_ ?_ | refine yak ?_ ?_ ?_ | refine yal ?_ | refine yaf ?_ ?_ | refine yab ?_ ?_)
    all_goals (first | (rw [hsu]; done) | (simp; done) | omega)
   case hstore =>
    repeat' (first | rfl | refine yaa ?_ ?_ | refine yad ?_ ?_ ?_ ?_ | refine yah ?_ | refine yae ?_ | refine yai ?_ | refine yaj ?_ | refine yan ?_ ?_ ?_ | refine yak ?_ ?_ ?_ | refine yal ?_ | refine yaf ?_ ?_ | refine yab ?_ ?_)
    all_goals (first | (simp; done) | omega | (simp; omega))
   case hst =>
    first | trivial | omega | (simp; done) | (simp; omega)
   case hm => omega
  ·intro hb
   try simp only [hB, decide_eq_true_eq, decide_eq_false_iff_not] at hb
   refine AW.keep [3] [] ?_
   try simp only [go_sem, reduceIte, reduceCtorEq, zA, zM, zE, zL, zD, zS, zP, zB, zI, zR]
   refine AW.exit ?_
   rw [← hQl1]
   refine hK5 _ _ _ ?_; clear hK5
   refine AW.seq fun K10 hK10 => ?_
   refine AW.regionK 0 (fun _ => none) [2] [] ?_
   simp only [go_sem, reduceIte, reduceCtorEq, zA, zM, zE, zL, zD, zS, zP, zB, zI, zR, yac]
   repeat with_reducible refine cj ?_ ?_
   all_goals try first | omega
   refine hK10 _ _ _ ?_; clear hK10
   refine AW.ret ?_
   rw [← hQr]
   simp only [go_sem, reduceIte, reduceCtorEq, zA, zM, zE, zL, zD, zS, zP, zB, zI, zR, yac]
   have hj : j = l.length - 1 := by omega
   subst hj
   exact Wk.refl _
def heightT (n : Nat) (t : List (List Bool)) : Int := if n = 0 then 0 else mxU (levO n t) (n - 1) + 1
theorem yqf (n : Nat) (t : List (List Bool)) (hs : Sq n t) (hn : n ≤ 512) (hp : poB n t = true) (hl : (yat t n).length ≤ 2000) (hlv : (levO n t).length = n) (hb : ∀ j, mxU (levO n t) j ≤ 1000000 ∧ -1000000 ≤ mxU (levO n t) j) : Reads Tryd.prog 13 false [relB t] (.tup [.int .i64 (heightT n t), .int .i64 0]) := by
 have he := yrx n t hs hn hp
 rw [if_pos hl] at he
 have hlev := levels_g n t hs hn hp
 have hmx := fun h => max_r (levO n t) (by omega) h
 have hbb := hb ((levO n t).length - 1)
 have hht : heightT n t = if n = 0 then 0 else mxU (levO n t) (n - 1) + 1 := rfl
 rw [hht]
 clear hb hht
 unfold relB at *
 generalize levO n t = L at *
 refine Reads.body (rs := [.tmp 2, .tmp 3]) Tryd.func13 rfl Tryd.ntmps13 rfl (by simp) ?_
 generalize hQr : retQ _ _ _ = Qr
 refine AW.seq fun K1 hK1 => ?_
 refine AW.regionK 0 (fun _ => none) [1] [1] ?_
 simp only [go_sem, reduceIte, reduceCtorEq, zA, zM, zE, zL, zD, zS, zP, zB, zI, zR, yac]
 repeat with_reducible refine cj ?_ ?_
 all_goals try first | omega
 refine hK1 _ _ _ ?_; clear hK1
 refine AW.seq fun K2 hK2 => ?_
 refine AW.seq fun K3 hK3 => ?_
 refine AW.regionK 0 (fun ii => if ii = 1 then some (.reads false (.tup [.rsl 2 ((yat t n).map ya6), .int .i64 0])) else none) [1, 5] [1] ?_
 simp only [go_sem, reduceIte, reduceCtorEq, zA, zM, zE, zL, zD, zS, zP, zB, zI, zR, yac]
 repeat with_reducible refine cj ?_ ?_
 all_goals try first | (exact he) | omega | exact ent (by kernel_rfl)
 refine hK3 _ _ _ ?_; clear hK3
 refine AW.seq fun K4 hK4 => ?_
 refine AW.regionK 0 (fun _ => none) [1, 5, 14] [1] ?_
 simp only [go_sem, reduceIte, reduceCtorEq, zA, zM, zE, zL, zD, zS, zP, zB, zI, zR, yac]
 repeat with_reducible refine cj ?_ ?_
 all_goals try first | omega
 refine hK4 _ _ _ ?_; clear hK4
 refine AW.cond rfl (by simp only [go_sem, reduceIte, reduceCtorEq, zA, zM, zE, zL, zD, zS, zP, zB, zI, zR]) ?_ ?_
 ·intro hb
  try simp only [hB, decide_eq_true_eq, decide_eq_false_iff_not] at hb
  exfalso; simp at hb
 ·intro hb
  try simp only [hB, decide_eq_true_eq, decide_eq_false_iff_not] at hb
  refine AW.skip ?_
  refine hK2 _ _ _ ?_; clear hK2
  refine AW.seq fun K5 hK5 => ?_
  refine AW.regionK 0 (fun ii => if ii = 1 then some (.reads false (.tup [.rsl 1 (ints L), .int .i64 ((0 : Nat) : Int)])) else none) [6, 7] [] ?_
  simp only [go_sem, reduceIte, reduceCtorEq, zA, zM, zE, zL, zD, zS, zP, zB, zI, zR, yac]
  repeat with_reducible refine cj ?_ ?_
  all_goals try first | (exact hlev) | omega | exact ent (by kernel_rfl)
  refine hK5 _ _ _ ?_; clear hK5
  refine AW.seq fun K6 hK6 => ?_
  refine AW.seq fun K7 hK7 => ?_
  refine AW.regionK 0 (fun _ => none) [6, 7, 27] [] ?_
  simp only [go_sem, reduceIte, reduceCtorEq, zA, zM, zE, zL, zD, zS, zP, zB, zI, zR, yac]
  repeat with_reducible refine cj ?_ ?_
  all_goals try first | omega | (intros; (repeat' apply And.intro) <;> first | assumption | omega | decide) | (intro hgd; exact absurd hgd (by decide)) | rfl | (simp only [go_sem, reduceIte, reduceCtorEq, zA, zM, zE, zL, zD, zS, zP, zB, zI, zR, yac]; done) | (intro _hgd; simp_all [go_sem]; done)
  refine hK7 _ _ _ ?_; clear hK7
  refine AW.cond rfl (by simp only [go_sem, reduceIte, reduceCtorEq, zA, zM, zE, zL, zD, zS, zP, zB, zI, zR]) ?_ ?_
  ·intro hb
   try simp only [hB, decide_eq_true_eq, decide_eq_false_iff_not] at hb
   have hn0 : n = 0 := by first | omega | (simp at hb; omega)
   refine AW.seq fun K8 hK8 => ?_
   refine AW.regionK 0 (fun _ => none) [2, 3] [] ?_
   simp only [go_sem, reduceIte, reduceCtorEq, zA, zM, zE, zL, zD, zS, zP, zB, zI, zR, yac]
   repeat with_reducible refine cj ?_ ?_
   all_goals try first | omega
   refine hK8 _ _ _ ?_; clear hK8
   refine AW.ret ?_
   rw [← hQr]
   simp only [go_sem, reduceIte, reduceCtorEq, zA, zM, zE, zL, zD, zS, zP, zB, zI, zR, yac]
   exact Wk.of_eq (by rw [if_pos hn0]; simp)
  ·intro hb
   try simp only [hB, decide_eq_true_eq, decide_eq_false_iff_not] at hb
   have hn0 : n ≠ 0 := by first | omega | (simp at hb; omega)
   have hmx := hmx (by omega)
   refine AW.skip ?_
   refine hK6 _ _ _ ?_; clear hK6
   refine AW.seq fun K9 hK9 => ?_
   refine AW.regionK 0 (fun ii => if ii = 1 then some (.reads false (.int .i64 (mxU L (L.length - 1)))) else none) [2, 3] [] ?_
   simp only [go_sem, reduceIte, reduceCtorEq, zA, zM, zE, zL, zD, zS, zP, zB, zI, zR, yac]
   repeat with_reducible refine cj ?_ ?_
   all_goals try first | (exact hmx) | omega | exact ent (by kernel_rfl)
   refine hK9 _ _ _ ?_; clear hK9
   refine AW.ret ?_
   rw [← hQr]
   simp only [go_sem, reduceIte, reduceCtorEq, zA, zM, zE, zL, zD, zS, zP, zB, zI, zR, yac]
   exact Wk.of_eq (by rw [if_neg hn0, hlv])
end Go.Proofs.W

namespace Go.Proofs.W
open Go.AM Go
set_option maxRecDepth 100000
set_option maxHeartbeats 2000000
def okC (n : Nat) (t : List (List Bool)) (c : List Int) : Bool := !decide (c.length = 0) && chainB n t c
end Go.Proofs.W

namespace Go.Proofs.W
open Go.AM Go
set_option maxRecDepth 100000
set_option maxHeartbeats 2000000
def frI (t : List (List Bool)) (b : List Bool) (i k : Nat) : Bool := (List.range k).all fun j => !(b.getD i false && b.getD j false && atT t i j)
def frU (t : List (List Bool)) (b : List Bool) (n i : Nat) : Bool := (List.range i).all fun i => frI t b i n
theorem frU_anti {t : List (List Bool)} {b : List Bool} {n : Nat} (hb : b.length = n) : frU t b n n = yeh t b := by
 have h : frU t b n n = true ↔ yeh t b = true := by
  unfold frU frI yeh yn8
  simp only [List.all_eq_true, List.mem_range]
  constructor
  ·intro h i hi j hj
   have h1 := memB_mem.1 hi
   have h2 := memB_mem.1 hj
   have := h i (by omega) j (by omega)
   rw [h1.2, h2.2] at this
   simpa using this
  ·intro h i hi j hj
   cases hbi : b.getD i false with
   | false => rfl
   | true =>
    cases hbj : b.getD j false with
    | false => rfl
    | true =>
     have := h i (memB_mem.2 ⟨by omega, hbi⟩) j (memB_mem.2 ⟨by omega, hbj⟩)
     simpa using this
 cases h1 : frU t b n n <;> cases h2 : yeh t b <;> simp_all
end Go.Proofs.W

