/- Lemmas and contracts, part 4: an abstract machine over the model, and the functions that the statement reaches. -/
import Derived.Test.YtppocnbagombeaaGreatDoorBirkhoffLatticesP3
import Derived.Shelf.Strings.Builder1
import Derived.Room.Shelf.BuilderFits
import Derived.Carry
import Derived.RowKit
import Derived.OpenShut
import Derived.Below
import Derived.ChangeSame
import Derived.JoinedOf
import Derived.Handed
set_option linter.unusedVariables false
set_option linter.unusedSimpArgs false
open Nat renaming reduceAdd → zA, reduceMul → zM, reduceEqDiff → zE, reduceLT → zL, reduceLeDiff → zD, reduceSub → zS, reducePow → zP, reduceBEq → zB
open Int renaming reduceToNat → zI
open List renaming reduceReplicate → zR
namespace Go.Proofs.B
open Go.AM Go
set_option maxRecDepth 100000
set_option maxHeartbeats 1000000
theorem all_r (n : Nat) (t : List (List Bool)) (hs : Sq n t) (hn : n ≤ 512) : Reads Tryz.prog 93 true [relB t] (.rsl 2 ((pairsT t n).map pairV)) := by
 have hlen := hs.len
 have htl := tabR_len t
 have hh := fun i j hi hj => rhas_r n t hs hn i j hi hj
 unfold relB at *
 refine Reads.bodyF (rs := [.tmp 2]) Tryz.func93 rfl Tryz.ntmps93 rfl (by simp) ?_
 generalize hQr : retQ _ _ _ = Qr
 refine AW.sg [1] [1] (e2 @htl @hlen) ?_
 refine AW.sg [1,3] [1] (e2 @htl @hlen) ?_
 refine AW.seq fun K1 hK1 => ?_
 refine AW.sg [1,3,8,9] [1] (e2 @htl @hlen) ?_
 refine AW.block ?_
 refine AW.nilOwn 3 200 2 (by simp only [go_sem, reduceIte, zE]) ?_
 refine AW.keep [1, 3, 8, 9] [1, 200] ?_
 simp only [go_sem, reduceIte, zE]
 refine AW.loopE (fun mm ee ss kk => ∃ (i g1 v1 g v : Nat), n - i = mm ∧ ee = [(1, .ptr ⟨1, g1, none⟩ 0 0), (3, .sl ⟨200, g, none⟩ 0 (pairsAt t n i).length none), (8, .int .i64 n), (9, .int .i64 (i : Nat))] ∧ ss = [(1, some ⟨g1, v1, 1, [[.rsl 2 (tabR t)]]⟩), (200, some ⟨g, v, 2, (pairsAt t n i).map pairV⟩)] ∧ (i ≤ n)) ?_ ?_
 ·exact ⟨_, 0, _, _, _, _, rfl, eD, eD, eT⟩
 rintro mm ee ss kk ⟨i, g1, v1, g, v, rfl, rfl, rfl, hI⟩
 generalize hQl1 : thenQ _ _ = Ql1
 refine AW.sg [1,3,8,9,10] [1,200] (e2 @htl @hlen) ?_
 refine AW.seq fun K2 hK2 => ?_
 refine AW.cn ?_ ?_
 ·intro hb
  refine AW.skip ?_
  refine hK2 _ _ _ ?_; clear hK2
  refine AW.seq fun K3 hK3 => ?_
  refine AW.block ?_
  refine AW.sg [1,3,4,8,9] [1,200] (e2 @htl @hlen) ?_
  refine AW.sg [1,3,4,8,9,14,15] [1,200] (e2 @htl @hlen) ?_
  refine AW.block ?_
  refine AW.loopE (fun mm ee ss kk => ∃ (j g1 v1 g v : Nat), n - j = mm ∧ ee = [(1, .ptr ⟨1, g1, none⟩ 0 0), (3, .sl ⟨200, g, none⟩ 0 (pairsAt t n i ++ rowPairs t i j).length none), (4, .int .i64 (i : Nat)), (8, .int .i64 n), (9, .int .i64 (i : Nat)), (14, .int .i64 n), (15, .int .i64 (j : Nat))] ∧ ss = [(1, some ⟨g1, v1, 1, [[.rsl 2 (tabR t)]]⟩), (200, some ⟨g, v, 2, (pairsAt t n i ++ rowPairs t i j).map pairV⟩)] ∧ (j ≤ n)) ?_ ?_
  ·refine ⟨_, 0, ?_, ?_, ?_, ?_, rfl, ?henv, ?hstore, ?hst⟩
   case henv =>
    repeat' (first | rfl | apply env_cons | apply st_cons | apply int_eq | apply bool_eq | apply rsl_eq | apply osl_eq | apply sl_eq | apply ptr_eq | apply agg_eq | apply es_cons | apply row_cons)
    all_goals (simp [rowPairs])
   case hstore =>
    repeat' (first | rfl | apply env_cons | apply st_cons | apply int_eq | apply bool_eq | apply rsl_eq | apply osl_eq | apply sl_eq | apply ptr_eq | apply agg_eq | apply es_cons | apply row_cons)
    all_goals (simp [rowPairs])
   case hst =>
    first | trivial | omega | (simp; done) | (simp; omega)
  rintro mm ee ss kk ⟨j, g1, v1, g, v, rfl, rfl, rfl, hI⟩
  generalize hQl2 : thenQ _ _ = Ql2
  refine AW.sg [1,3,4,8,9,14,15,16] [1,200] (e2 @htl @hlen) ?_
  refine AW.seq fun K4 hK4 => ?_
  refine AW.cn ?_ ?_
  ·intro hb
   have hhr := Reads.flat (hh i j (by omega) (by omega)) rfl
   have hps := rowPairs_succ t i j
   have hpl := pairsAt_le t n i
   have hrl := rowPairs_le t i j
   have hmul : n * i ≤ 262144 := Nat.le_trans (Nat.mul_le_mul hn (by omega : i ≤ 512)) (by decide)
   have hll : (pairsAt t n i ++ rowPairs t i j).length ≤ 300000 := by rw [List.length_append]; omega
   have hml : ((pairsAt t n i ++ rowPairs t i j).map pairV).length = (pairsAt t n i ++ rowPairs t i j).length := by simp
   have htk : ((pairsAt t n i ++ rowPairs t i j).map pairV).take (pairsAt t n i ++ rowPairs t i j).length = (pairsAt t n i ++ rowPairs t i j).map pairV := List.take_of_length_le (by simp)
   generalize hL : pairsAt t n i ++ rowPairs t i j = L at *
   refine AW.skip ?_
   refine hK4 _ _ _ ?_; clear hK4
   refine AW.seq fun K5 hK5 => ?_
   refine AW.block ?_
   refine AW.sg [1,3,4,5,8,9,14,15] [1,200] (e2 @htl @hlen) ?_
   refine AW.so 0 (fun ii => if ii = 3 then some (.reads true (.bool (atT t i j))) else none) [1,3,4,5,8,9,14,15,21] [1,200] (e2 @htl @hlen) ?_
   repeat with_reducible refine cj ?_ ?_
   all_goals try first | (exact hhr) | omega | exact ent (by kernel_rfl)
   refine AW.cn ?_ ?_
   ·intro hb
    rw [if_pos hb] at hps
    have hLs : pairsAt t n i ++ rowPairs t i (j + 1) = L ++ [((i : Int), (j : Int))] := by rw [hps, ← List.append_assoc, hL]
    refine AW.regionK 0 (fun _ => none) [1, 3, 4, 8, 9, 14, 15] [1, 200] ?_
    simp only [go_sem, reduceIte, reduceCtorEq, zA, zM, zE, zL, zD, zS, zP, zB, zI, zR, htl, hlen, htk, hml, pairs_app]
    repeat with_reducible refine cj ?_ ?_
    all_goals try first | omega | (simp [scP, scalar]; done) | exact scP_words _ | exact scP_ints _ | exact scP_bools _
    refine hK5 _ _ _ ?_; clear hK5
    refine AW.rg [1,3,4,8,9,14,15] [1,200] (e2 @htl @hlen) ?_
    rw [← hQl2]; change Exists _
    refine ⟨_, ?hm, j + 1, ?_, ?_, ?_, ?_, rfl, ?henv, ?hstore, ?hst⟩
    case henv =>
     repeat' (first | rfl | apply env_cons | apply st_cons | apply int_eq | apply bool_eq | apply rsl_eq | apply osl_eq | apply sl_eq | apply ptr_eq | apply agg_eq | apply es_cons | apply row_cons)
     all_goals (rw [hLs]; try simp)
    case hstore =>
     repeat' (first | rfl | apply env_cons | apply st_cons | apply int_eq | apply bool_eq | apply rsl_eq | apply osl_eq | apply sl_eq | apply ptr_eq | apply agg_eq | apply es_cons | apply row_cons)
     all_goals (rw [hLs])
    case hst =>
     first | trivial | omega | (simp; done) | (simp; omega)
    case hm => omega
   ·intro hb
    rw [if_neg (by rw [hb]; simp)] at hps
    have hLs : pairsAt t n i ++ rowPairs t i (j + 1) = L := by rw [hps, hL]
    refine AW.skip ?_
    refine hK5 _ _ _ ?_; clear hK5
    refine AW.rg [1,3,4,8,9,14,15] [1,200] (e2 @htl @hlen) ?_
    rw [← hQl2]; change Exists _
    refine ⟨_, ?hm, j + 1, ?_, ?_, ?_, ?_, rfl, ?henv, ?hstore, ?hst⟩
    case henv =>
     repeat' (first | rfl | apply env_cons | apply st_cons | apply int_eq | apply bool_eq | apply rsl_eq | apply osl_eq | apply sl_eq | apply ptr_eq | apply agg_eq | apply es_cons | apply row_cons)
     all_goals (rw [hLs]; try simp)
    case hstore =>
     repeat' (first | rfl | apply env_cons | apply st_cons | apply int_eq | apply bool_eq | apply rsl_eq | apply osl_eq | apply sl_eq | apply ptr_eq | apply agg_eq | apply es_cons | apply row_cons)
     all_goals (rw [hLs])
    case hst =>
     first | trivial | omega | (simp; done) | (simp; omega)
    case hm => omega
  ·intro hb
   have hj : j = n := by omega
   subst hj
   have hps := pairsAt_succ t j i
   refine AW.exit ?_
   rw [← hQl2]
   refine hK3 _ _ _ ?_; clear hK3
   refine AW.rg [1,3,8,9] [1,200] (e2 @htl @hlen) ?_
   rw [← hQl1]; change Exists _
   refine ⟨_, ?hm, i + 1, ?_, ?_, ?_, ?_, rfl, ?henv, ?hstore, ?hst⟩
   case henv =>
    repeat' (first | rfl | apply env_cons | apply st_cons | apply int_eq | apply bool_eq | apply rsl_eq | apply osl_eq | apply sl_eq | apply ptr_eq | apply agg_eq | apply es_cons | apply row_cons)
    all_goals (rw [hps])
   case hstore =>
    repeat' (first | rfl | apply env_cons | apply st_cons | apply int_eq | apply bool_eq | apply rsl_eq | apply osl_eq | apply sl_eq | apply ptr_eq | apply agg_eq | apply es_cons | apply row_cons)
    all_goals (rw [hps])
   case hst =>
    first | trivial | omega | (simp; done) | (simp; omega)
   case hm => omega
 ·intro hb
  refine AW.exit ?_
  rw [← hQl1]
  refine hK1 _ _ _ ?_; clear hK1
  refine AW.sg [2] [200] (e2 @htl @hlen) ?_
  rw [← hQr]
  refine AW.rt (e2 @htl @hlen) ?_
  have hi : i = n := by omega
  subst hi
  rw [List.take_of_length_le (by simp), vwcF_pairs]
  exact Wk.refl _
end Go.Proofs.B

namespace Go.Proofs.B
open Go.AM Go
set_option maxRecDepth 100000
set_option maxHeartbeats 1000000
def longR (rs : List USet) : Prop := rs.length ≤ 9223372036854775807 ∧ ∀ x ∈ rs, x.W.length ≤ 9223372036854775807
theorem valid_g (n : Nat) (t : List (List Bool)) (hs : Sq n t) (hn : n ≤ 512) : Reads Tryz.prog 91 false [relB t] (.bool true) := by
 have h := rvalid_r (t.map SB) (by simp [hs.len]; omega) (fun x hx => by
  obtain ⟨b, hb, rfl⟩ := List.mem_map.1 hx
  have := hs.row b hb
  have hwn := wordsN_rng (n := (b.length : Int)) (by omega)
  show (setW b b.length).length ≤ _
  rw [setW_len']; omega)
 rw [valid_tab hs hn, ← relB_SB] at h
 exact h
end Go.Proofs.B

namespace Go.Proofs.B
open Go.AM Go
set_option maxRecDepth 100000
set_option maxHeartbeats 1000000
theorem inverse_g (n : Nat) (t : List (List Bool)) (hs : Sq n t) (hn : n ≤ 512) : Reads Tryz.prog 60 false [relB t] (.tup [relB (invT n t), .int .i64 ((0 : Nat) : Int)]) := by
 have h := valid_g n t hs hn
 have ha := all_r n t hs hn
 have hemp := empty_u n hn
 have hlt : (tabR t).length = n := by rw [tabR_len, hs.len]
 have hin := swap_in (pairsT_in (t := t) (n := n))
 have hpl : (pairsT t n).length ≤ 262144 := Nat.le_trans (pairsAt_le t n n) (Nat.le_trans (Nat.mul_le_mul hn hn) (by decide))
 have hiv : invT n t = putL (zeroT n) ((pairsT t n).map swapP) := rfl
 have hsq := fun j => Sq.putL (n := n) (((pairsT t n).map swapP).take j) (Sq.rep n) (fun p hp => hin p (List.mem_of_mem_take hp))
 generalize hL : pairsT t n = L at *
 unfold relB at *
 refine Reads.body (rs := [.cell 2 24, .tmp 3]) Tryz.func60 rfl Tryz.ntmps60 rfl (by simp) ?_
 generalize hQr : retQ _ _ _ = Qr
 refine AW.sg [1,2] [1,2] (e2 @hlt @renC_tabO) ?_
 refine AW.seq fun K1 hK1 => ?_
 refine AW.so 0 (fun ii => if ii = 1 then some (.reads false (.bool true)) else none) [1,2,9] [1,2] (e2 @hlt @renC_tabO) ?_
 repeat with_reducible refine cj ?_ ?_
 all_goals try first | (exact h) | omega | exact ent (by kernel_rfl)
 refine AW.cn ?_ ?_
 ·intro hb
  simp at hb
 ·intro hb
  refine AW.skip ?_
  refine hK1 _ _ _ ?_; clear hK1
  refine AW.so 0 (fun ii => if ii = 3 then some (.upd [] (fun k => [(0, some ⟨k, k, 2, tabO (List.replicate n (List.replicate n false))⟩)]) (fun k => .agg [.sl ⟨0, k, none⟩ 0 n none])) else none) [1,2,4] [1,2,4,14] (e2 @hlt @renC_tabO) ?_
  repeat with_reducible refine cj ?_ ?_
  all_goals try first | (exact hemp) | omega | exact ent (by kernel_rfl)
  refine AW.seq fun K2 hK2 => ?_
  refine AW.so 0 (fun ii => if ii = 1 then some (.reads true (.rsl 2 (L.map pairV))) else none) [2,4,16,17,18] [2,4,14] (e2 @hlt @renC_tabO) ?_
  repeat with_reducible refine cj ?_ ?_
  all_goals try first | (exact ha) | omega | exact ent (by kernel_rfl)
  refine AW.block ?_
  refine AW.loopE (fun mm ee ss kk => ∃ (j g2 v2 g4 v4 g v : Nat), L.length - j = mm ∧ ee = [(2, .ptr ⟨2, g2, none⟩ 0 0), (4, .ptr ⟨4, g4, none⟩ 0 0), (16, .rsl 2 (L.map pairV)), (17, .int .i64 L.length), (18, .int .i64 (j : Nat))] ∧ ss = [(2, some ⟨g2, v2, 1, [[.nilsl]]⟩), (4, some ⟨g4, v4, 1, [[.sl ⟨14, g, none⟩ 0 n none]]⟩), (14, some ⟨g, v, 2, tabO (putL (zeroT n) ((L.map swapP).take j))⟩)] ∧ (j ≤ L.length)) ?_ ?_
  ·exact ⟨_, 0, _, _, _, _, _, _, rfl, eD, eD, eT⟩
  rintro mm ee ss kk ⟨j, g2, v2, g4, v4, g, v, rfl, rfl, rfl, hI⟩
  generalize hQl1 : thenQ _ _ = Ql1
  refine AW.sg [2,4,16,17,18,19] [2,4,14] (e2 @hlt @renC_tabO) ?_
  refine AW.seq fun K3 hK3 => ?_
  refine AW.cn ?_ ?_
  ·intro hb
   obtain ⟨p, hp⟩ := getI (l := L) (j := j) (by omega)
   have hgp := getV (f := pairV) hp
   have hps : (L.map swapP)[j]? = some (swapP p) := by simp [hp]
   have hip := hin (swapP p) (List.mem_of_getElem? hps)
   have hpt := putL_take (u := zeroT n) hps
   have hsu := hsq j
   change Sq n (putL (zeroT n) _) at hsu
   unfold inP at hip
   simp only [swapP] at hip hpt
   generalize putL (zeroT n) ((L.map swapP).take j) = U at *
   have hpu := fun g v => put_u n U hsu hn p.2.toNat p.1.toNat (by omega) (by omega) g v none
   rw [Int.toNat_of_nonneg hip.1, Int.toNat_of_nonneg hip.2.2.1] at hpu
   unfold putT at hpt
   refine AW.skip ?_
   refine hK3 _ _ _ ?_; clear hK3
   refine AW.seq fun K4 hK4 => ?_
   refine AW.block ?_
   refine AW.sg [2,4,6,16,17,18] [2,4,6,14] (e4 @hlt @renC_tabO @hgp @pairV.eq_1) ?_
   refine AW.ro 0 (fun ii => if ii = 5 then some (.upd [14] (fun kk => [(0, some ⟨g, kk, 2, tabO (U.set p.2.toNat ((rowT U p.2.toNat).set p.1.toNat true))⟩)]) (fun _ => .tup [])) else none) [2,4,16,17,18] [2,4,14] (e2 @hlt @renC_tabO) ?_
   repeat with_reducible refine cj ?_ ?_
   all_goals try first | (exact hpu _ _) | omega | exact ent (by kernel_rfl)
   refine hK4 _ _ _ ?_; clear hK4
   refine AW.rg [2,4,16,17,18] [2,4,14] (e2 @hlt @renC_tabO) ?_
   rw [← hQl1]; change Exists _
   refine ⟨_, ?hm, j + 1, ?_, ?_, ?_, ?_, ?_, ?_, rfl, ?henv, ?hstore, ?hst⟩
   case henv =>
    repeat' (first | rfl | apply env_cons | apply st_cons | apply int_eq | apply bool_eq | apply rsl_eq | apply osl_eq | apply sl_eq | apply ptr_eq | apply agg_eq | apply es_cons | apply row_cons)
    all_goals (first | (simp; done) | omega | (simp; omega))
   case hstore =>
    repeat' (first | rfl | apply env_cons | apply st_cons | apply int_eq | apply bool_eq | apply rsl_eq | apply osl_eq | apply sl_eq | apply ptr_eq | apply agg_eq | apply es_cons | apply row_cons)
    all_goals (rw [hpt])
   case hst =>
    first | trivial | omega | (simp; done) | (simp; omega)
   case hm => omega
  ·intro hb
   refine AW.kx [2,4] [2,4,14] ?_
   rw [← hQl1]
   refine hK2 _ _ _ ?_; clear hK2
   refine AW.sg [2,3] [2,14] (e2 @hlt @renC_tabO) ?_
   rw [← hQr]
   refine AW.rt (e2 @hlt @renC_tabO) ?_
   have hj2 : j = L.length := by omega
   subst hj2
   have hfl : ((L.map swapP).take L.length) = L.map swapP := List.take_of_length_le (by simp)
   rw [hfl, ← hiv]
   refine Wk.of_eq ?_
   rw [List.take_of_length_le (by rw [tabO_len, hiv, ← hfl]; exact Nat.le_of_eq (hsq _).len), vwc_tabO]
   rfl
theorem fillO_get (t : List (List Bool)) (x : List AV) (i : Nat) (h : i < t.length) : ((tabO t).set i x).getD i [] = x := Go.AM.getD_set_eq (by rw [tabO_len]; exact h) _ _
end Go.Proofs.B

namespace Go.Proofs.B
open Go.AM Go
set_option maxRecDepth 100000
set_option maxHeartbeats 1000000
def badPr (n : Int) (p : Int × Int) : Bool := !(decide (0 ≤ p.1) && decide (p.1 < n)) || !(decide (0 ≤ p.2) && decide (p.2 < n))
end Go.Proofs.B

namespace Go.Proofs.B
open Go.AM Go
set_option maxRecDepth 100000
set_option maxHeartbeats 1000000
end Go.Proofs.B

namespace Go.Proofs.B
open Go.AM Go
set_option maxRecDepth 100000
set_option maxHeartbeats 2000000
theorem index_r (l : List Int) (x : Int) (hl : l.length ≤ 9223372036854775807) : Reads Tryz.prog 114 false [.rsl 1 (ints l), .int .i64 x] (.int .i64 (ixf (fun y => decide (x = y)) l)) := by
 refine Reads.body (rs := [.tmp 4]) Tryz.func114 rfl Tryz.ntmps114 rfl (by simp) ?_
 generalize hQr : retQ _ _ _ = Qr
 refine AW.sg [0,1] [] trivial ?_
 refine AW.seq fun K1 hK1 => ?_
 refine AW.sg [0,1,7,8] [] trivial ?_
 refine AW.block ?_
 refine AW.loopE (fun mm ee ss kk => ∃ (j : Nat), l.length - j = mm ∧ ee = [(0, .rsl 1 (ints l)), (1, .int .i64 x), (7, .int .i64 l.length), (8, .int .i64 (j : Nat))] ∧ ss = [] ∧ (j ≤ l.length ∧ (l.take j).any (fun y => decide (x = y)) = false)) ?_ ?_
 ·exact ⟨_, 0, rfl, eD, eD, eT⟩
 rintro mm ee ss kk ⟨j, rfl, rfl, rfl, hI⟩
 generalize hQl1 : thenQ _ _ = Ql1
 obtain ⟨hj, hall⟩ := hI
 refine AW.sg [0,1,7,8,9] [] trivial ?_
 refine AW.seq fun K2 hK2 => ?_
 refine AW.cn ?_ ?_
 ·intro hb
  obtain ⟨y, hy⟩ := getI (l := l) (j := j) (by omega)
  have hgy := ints_get hy
  have hats := any_take_succ (p := fun y => decide (x = y)) hy
  refine AW.skip ?_
  refine hK2 _ _ _ ?_; clear hK2
  refine AW.seq fun K3 hK3 => ?_
  refine AW.block ?_
  refine AW.sg [0,1,5,7,8] [] trivial ?_
  refine AW.sg [0,1,5,7,8,16] [] (@hgy) ?_
  refine AW.cn ?_ ?_
  ·intro hb
   refine AW.sg [4] [] trivial ?_
   rw [← hQl1, ← hQr]
   refine AW.rt trivial ?_
   exact Wk.of_eq (by rw [ixf_at hy (decide_eq_true hb) hall])
  ·intro hb
   refine AW.skip ?_
   refine hK3 _ _ _ ?_; clear hK3
   refine AW.rg [0,1,7,8] [] trivial ?_
   rw [← hQl1]; change Exists _
   exact ⟨_, eO, j + 1, rfl, eD, eD, (⟨by omega, by rw [hats, hall, decide_eq_false hb]; rfl⟩)⟩
 ·intro hb
  refine AW.kx [] [] ?_
  rw [← hQl1]
  refine hK1 _ _ _ ?_; clear hK1
  refine AW.sg [4] [] trivial ?_
  rw [← hQr]
  refine AW.rt trivial ?_
  exact Wk.of_eq (by rw [List.take_of_length_le (by omega)] at hall; rw [ixf_none hall])
def nats (l : List Nat) : List Int := l.map fun (i : Nat) => (i : Int)
theorem nats_app (l : List Nat) (i : Nat) : nats l ++ [(i : Int)] = nats (l ++ [i]) := by simp [nats]
theorem nats_len (l : List Nat) : (nats l).length = l.length := by simp [nats]
end Go.Proofs.B

namespace Go.Proofs.B
open Go.AM Go
set_option maxRecDepth 100000
set_option maxHeartbeats 2000000
attribute [-go_sem] globA_0
theorem tz_c (x q k : Nat) (G : List AV) (hg : globA 0 = some G) (h0 : x ≠ 0) (hq : bShr .u64 (IntKind.u64.wrap (bAnd .u64 (x : Int) (IntKind.u64.wrap (0 - (x : Int))) * 285870213051353865)) 58 = (q : Int)) (hq1 : q < 64) (hd : (List.drop q G).getD 0 .any = .int .u8 (k : Int)) (hdl : (List.drop q G).length = 64 - q) (hw : IntKind.i64.wrap (k : Int) = k) : Reads Tryz.prog 88 false [.int .u64 (x : Nat)] (.int .i64 (k : Nat)) := by
 refine Reads.body (rs := [.tmp 2]) Tryz.func88 rfl Tryz.ntmps88 rfl (by simp) ?_
 generalize hQr : retQ _ _ _ = Qr
 refine AW.sg [0] [] trivial ?_
 refine AW.seq fun K1 hK1 => ?_
 refine AW.sg [0,4] [] trivial ?_
 refine AW.cn ?_ ?_
 ·intro hb
  exfalso; omega
 ·intro hb
  refine AW.skip ?_
  refine hK1 _ _ _ ?_; clear hK1
  refine AW.sg [2] [] (e3 @hg @hq (e5 @hd @hdl @hw @Int.toNat_natCast @Nat.mul_one)) ?_
  rw [← hQr]
  refine AW.rt trivial ?_
  exact Wk.refl _
theorem tz_r (x : Nat) (hx : x < 18446744073709551616) (h0 : x ≠ 0) (k : Nat) (hk : k < 64) (hl : x &&& (18446744073709551616 - x) = 2 ^ k) : Reads Tryz.prog 88 false [.int .u64 (x : Nat)] (.int .i64 (k : Nat)) :=
 tz_c x _ k tzA globA_0 h0 (tz_ix hx h0 hk hl) (tz_look k hk).1 (tzA_get (tz_look k hk).1 (tz_look k hk).2) (tzA_len _) (wrapI (by omega))
end Go.Proofs.B

namespace Go.Proofs.B
open Go.AM Go
set_option maxRecDepth 100000
set_option maxHeartbeats 2000000
theorem members_r (N : Int) (W : List Int) (hv : validS N W = true) (hW : okW W) : Reads Tryz.prog 55 false [.agg [.int .i64 N, .rsl 1 (words W)]] (.tup [.rsl 1 (ints (nats (memT W W.length))), .int .i64 ((0 : Nat) : Int)]) := by
 obtain ⟨hN0, hN1, hNl⟩ := validS_sz hv
 have hwr := wordsN_rng hN0
 have h := bvalid_r N W (by omega)
 rw [hv] at h
 have hml := memT_len W
 refine Reads.body (rs := [.tmp 2, .tmp 3]) Tryz.func55 rfl Tryz.ntmps55 rfl (by simp) ?_
 generalize hQr : retQ _ _ _ = Qr
 refine AW.sg [1] [1] trivial ?_
 refine AW.seq fun K1 hK1 => ?_
 refine AW.so 0 (fun ii => if ii = 1 then some (.reads false (.bool true)) else none) [1,9] [1] trivial ?_
 repeat with_reducible refine cj ?_ ?_
 all_goals try first | (exact h) | omega | exact ent (by kernel_rfl)
 refine AW.cn ?_ ?_
 ·intro hb
  simp at hb
 ·intro hb
  refine AW.skip ?_
  refine hK1 _ _ _ ?_; clear hK1
  refine AW.sg [1,4] [1] trivial ?_
  refine AW.seq fun K2 hK2 => ?_
  refine AW.sg [4,11,12,13] [] trivial ?_
  refine AW.block ?_
  refine AW.nilOwn 4 200 1 (by simp only [go_sem, reduceIte, zE]) ?_
  refine AW.keep [4, 11, 12, 13] [200] ?_
  simp only [go_sem, reduceIte, zE]
  refine AW.loopE (fun mm ee ss kk => ∃ (k g v : Nat) (out : List Nat), W.length - k = mm ∧ ee = [(4, .sl ⟨200, g, none⟩ 0 out.length none), (11, .rsl 1 (words W)), (12, .int .i64 W.length), (13, .int .i64 (k : Nat))] ∧ ss = [(200, some ⟨g, v, 1, ints (nats out)⟩)] ∧ (k ≤ W.length ∧ out = memT W k)) ?_ ?_
  ·refine ⟨_, 0, ?_, ?_, [], rfl, ?henv, ?hstore, ?hst⟩
   case henv =>
    repeat' (first | rfl | apply env_cons | apply st_cons | apply int_eq | apply bool_eq | apply rsl_eq | apply osl_eq | apply sl_eq | apply ptr_eq | apply agg_eq | apply es_cons | apply row_cons)
    all_goals (first | (simp; done) | omega | (simp; omega))
   case hstore =>
    repeat' (first | rfl | apply env_cons | apply st_cons | apply int_eq | apply bool_eq | apply rsl_eq | apply osl_eq | apply sl_eq | apply ptr_eq | apply agg_eq | apply es_cons | apply row_cons)
    all_goals (simp [ints, nats])
   case hst =>
    exact ⟨Nat.zero_le _, rfl⟩
  rintro mm ee ss kk ⟨k, g, v, out, rfl, rfl, rfl, hI⟩
  generalize hQl1 : thenQ _ _ = Ql1
  obtain ⟨hk, hout⟩ := hI
  refine AW.sg [4,11,12,13,14] [200] trivial ?_
  refine AW.seq fun K3 hK3 => ?_
  refine AW.cn ?_ ?_
  ·intro hb
   have hgw := words_getD (l := W) (i := k) (by omega)
   have hwk := hW k
   have hms := memT_succ W k
   have hmk : memK W k = (bitsW (W.getD k 0).toNat).map fun j => 64 * k + j := rfl
   obtain ⟨x, hx⟩ : ∃ x : Nat, W.getD k 0 = (x : Int) := ⟨_, (Int.toNat_of_nonneg hwk.1).symm⟩
   have hxl : x < 18446744073709551616 := by omega
   have hmb := hml (k + 1)
   rw [hx, Int.toNat_natCast] at hmk
   rw [hx] at hgw
   rw [hmk] at hms
   refine AW.skip ?_
   refine hK3 _ _ _ ?_; clear hK3
   refine AW.seq fun K4 hK4 => ?_
   refine AW.block ?_
   refine AW.sg [4,5,6,11,12,13] [200] (@hgw) ?_
   refine AW.block ?_
   refine AW.loopE (fun mm ee ss kk => ∃ (y g v : Nat) (o2 : List Nat), y + 1 = mm ∧ ee = [(4, .sl ⟨200, g, none⟩ 0 o2.length none), (5, .int .i64 (k : Nat)), (6, .int .u64 (y : Nat)), (11, .rsl 1 (words W)), (12, .int .i64 W.length), (13, .int .i64 (k : Nat))] ∧ ss = [(200, some ⟨g, v, 1, ints (nats o2)⟩)] ∧ (y < 18446744073709551616 ∧ memT W (k + 1) = o2 ++ (bitsW y).map fun j => 64 * k + j)) ?_ ?_
   ·exact ⟨_, x, _, _, out, rfl, eD, eD, (⟨hxl, by rw [hms, hout]⟩)⟩
   rintro mm ee ss kk ⟨y, g, v, o2, rfl, rfl, rfl, hI⟩
   generalize hQl2 : thenQ _ _ = Ql2
   obtain ⟨hyl, hy⟩ := hI
   have hol : o2.length ≤ 64 * (k + 1) := by rw [hy, List.length_append] at hmb; omega
   refine AW.seq fun K5 hK5 => ?_
   refine AW.sg [4,5,6,11,12,13,19] [200] trivial ?_
   refine AW.cn ?_ ?_
   ·intro hb
    obtain ⟨j, hj, hj1, hj2, hj3⟩ := bitsW_step (x := y) (by omega) hyl
    have htz := tz_r y hyl (by omega) j hj hj1
    have hto : (ints (nats o2)).take o2.length = ints (nats o2) := List.take_of_length_le (by rw [ints_len, nats_len]; exact Nat.le_refl _)
    have hadd : (k : Int) * 64 + (j : Int) = ((64 * k + j : Nat) : Int) := by omega
    have hsub : IntKind.u64.wrap ((y : Int) - 1) = ((y - 1 : Nat) : Int) := by rw [show (y : Int) - 1 = ((y - 1 : Nat) : Int) by omega]; exact wrapU (by omega)
    have hand : bAnd .u64 (y : Int) ((y - 1 : Nat) : Int) = ((y &&& (y - 1) : Nat) : Int) := bAnd_nat hyl (by omega)
    have hone : [[AV.int .i64 ((64 * k + j : Nat) : Int)]] = ints [((64 * k + j : Nat) : Int)] := rfl
    refine AW.skip ?_
    refine hK5 _ _ _ ?_; clear hK5
    refine AW.seq fun K6 hK6 => ?_
    refine AW.block ?_
    refine AW.ro 0 (fun ii => if ii = 4 then some (.reads false (.int .i64 (j : Nat))) else none) [4,5,6,11,12,13] [200] (e5 @hadd @hto @ints_app @nats_app @nats_len) ?_
    repeat with_reducible refine cj ?_ ?_
    all_goals try first | (exact htz) | omega | exact ent (by kernel_rfl) | (simp [scP, scalar]; done) | exact scP_words _ | exact scP_ints _ | exact scP_bools _
    refine hK6 _ _ _ ?_; clear hK6
    refine AW.rg [4,5,6,11,12,13] [200] (e2 @hsub @hand) ?_
    rw [← hQl2]; change Exists _
    exact ⟨_, eO, y &&& (y - 1), _, _, o2 ++ [64 * k + j], rfl, eD, eD, (⟨by omega, by rw [hy, hj2]; simp⟩)⟩
   ·intro hb
    have hy0 : y = 0 := by omega
    subst hy0
    rw [bitsW_zero, List.map_nil, List.append_nil] at hy
    refine AW.exit ?_
    rw [← hQl2]
    refine hK4 _ _ _ ?_; clear hK4
    refine AW.rg [4,11,12,13] [200] trivial ?_
    rw [← hQl1]; change Exists _
    exact ⟨_, eO, k + 1, _, _, o2, rfl, eD, eD, (⟨by omega, hy.symm⟩)⟩
  ·intro hb
   refine AW.exit ?_
   rw [← hQl1]
   refine hK2 _ _ _ ?_; clear hK2
   refine AW.sg [2,3] [200] trivial ?_
   rw [← hQr]
   refine AW.rt trivial ?_
   have hkl : k = W.length := by omega
   subst hkl
   rw [hout, List.take_of_length_le (by rw [nats_len]; exact Nat.le_refl _)]
   exact Wk.refl _
end Go.Proofs.B

namespace Go.Proofs.B
open Go.AM Go
set_option maxRecDepth 100000
set_option maxHeartbeats 2000000
theorem pop_r (x : Nat) (hx : x < 18446744073709551616) : Reads Tryz.prog 113 false [.int .u64 (x : Nat)] (.int .i64 ((bitsW x).length : Nat)) := by
 obtain ⟨b1, b2, b3, b4⟩ := popN_bits hx
 have h1 := pop1 hx
 have h2 := pop2 b1 (by omega)
 have h3 := pop3 b2
 have b4' : popN x = (f3 1085102592571150095 (f2 3689348814741910323 (f1 6148914691236517205 x)) + f3 1085102592571150095 (f2 3689348814741910323 (f1 6148914691236517205 x)) / 256 + (f3 1085102592571150095 (f2 3689348814741910323 (f1 6148914691236517205 x)) + f3 1085102592571150095 (f2 3689348814741910323 (f1 6148914691236517205 x)) / 256) / 65536 + (f3 1085102592571150095 (f2 3689348814741910323 (f1 6148914691236517205 x)) + f3 1085102592571150095 (f2 3689348814741910323 (f1 6148914691236517205 x)) / 256 + (f3 1085102592571150095 (f2 3689348814741910323 (f1 6148914691236517205 x)) + f3 1085102592571150095 (f2 3689348814741910323 (f1 6148914691236517205 x)) / 256) / 65536) / 4294967296) % 128 := rfl
 rw [← b4, b4']
 clear b4 b4'
 generalize f1 6148914691236517205 x = a at *
 generalize f2 3689348814741910323 a = b at *
 generalize f3 1085102592571150095 b = y at *
 have h4 : IntKind.u64.wrap ((y : Int) + bShr .u64 (y : Int) 8) = ((y + y / 256 : Nat) : Int) := pop4 (k := 8) (by decide) (by decide) (by omega)
 have c1 : y + y / 256 < 600000000000000000 := by omega
 generalize y + y / 256 = y1 at *
 have h5 : IntKind.u64.wrap ((y1 : Int) + bShr .u64 (y1 : Int) 16) = ((y1 + y1 / 65536 : Nat) : Int) := pop4 (k := 16) (by decide) (by decide) (by omega)
 have c2 : y1 + y1 / 65536 < 700000000000000000 := by omega
 generalize y1 + y1 / 65536 = y2 at *
 have h6 : IntKind.u64.wrap ((y2 : Int) + bShr .u64 (y2 : Int) 32) = ((y2 + y2 / 4294967296 : Nat) : Int) := pop4 (k := 32) (by decide) (by decide) (by omega)
 have c3 : y2 + y2 / 4294967296 < 800000000000000000 := by omega
 generalize y2 + y2 / 4294967296 = y3 at *
 have h7 := pop5 (x := y3) (by omega)
 refine Reads.body (rs := [.tmp 2]) Tryz.func113 rfl Tryz.ntmps113 rfl (by simp) ?_
 generalize hQr : retQ _ _ _ = Qr
 refine AW.sg [0] [] trivial ?_
 refine AW.sg [0] [] (@h1) ?_
 refine AW.sg [0] [] (@h2) ?_
 refine AW.sg [0] [] (@h3) ?_
 refine AW.sg [0] [] (@h4) ?_
 refine AW.sg [0] [] (@h5) ?_
 refine AW.sg [0] [] (@h6) ?_
 refine AW.sg [2] [] (@h7) ?_
 rw [← hQr]
 refine AW.rt trivial ?_
 exact Wk.refl _
end Go.Proofs.B

namespace Go.Proofs.B
open Go.AM Go
set_option maxRecDepth 100000
set_option maxHeartbeats 2000000
theorem count_r (N : Int) (W : List Int) (hv : validS N W = true) (hW : okW W) : Reads Tryz.prog 82 false [.agg [.int .i64 N, .rsl 1 (words W)]] (.int .i64 ((memT W W.length).length : Nat)) := by
 obtain ⟨hN0, hN1, hNl⟩ := validS_sz hv
 have hwr := wordsN_rng hN0
 have h := bvalid_r N W (by omega)
 rw [hv] at h
 have hml := memT_len W
 refine Reads.body (rs := [.tmp 2]) Tryz.func82 rfl Tryz.ntmps82 rfl (by simp) ?_
 generalize hQr : retQ _ _ _ = Qr
 refine AW.sg [1] [1] trivial ?_
 refine AW.seq fun K1 hK1 => ?_
 refine AW.so 0 (fun ii => if ii = 1 then some (.reads false (.bool true)) else none) [1,8] [1] trivial ?_
 repeat with_reducible refine cj ?_ ?_
 all_goals try first | (exact h) | omega | exact ent (by kernel_rfl)
 refine AW.cn ?_ ?_
 ·intro hb
  simp at hb
 ·intro hb
  refine AW.skip ?_
  refine hK1 _ _ _ ?_; clear hK1
  refine AW.sg [1,3] [1] trivial ?_
  refine AW.seq fun K2 hK2 => ?_
  refine AW.sg [3,10,11,12] [] trivial ?_
  refine AW.block ?_
  refine AW.loopE (fun mm ee ss kk => ∃ (k c : Nat), W.length - k = mm ∧ ee = [(3, .int .i64 (c : Nat)), (10, .rsl 1 (words W)), (11, .int .i64 W.length), (12, .int .i64 (k : Nat))] ∧ ss = [] ∧ (k ≤ W.length ∧ c = (memT W k).length)) ?_ ?_
  ·exact ⟨_, 0, 0, rfl, eD, eD, (⟨Nat.zero_le _, rfl⟩)⟩
  rintro mm ee ss kk ⟨k, c, rfl, rfl, rfl, hI⟩
  generalize hQl1 : thenQ _ _ = Ql1
  obtain ⟨hk, hc⟩ := hI
  have hmk := hml k
  refine AW.sg [3,10,11,12,13] [] trivial ?_
  refine AW.seq fun K3 hK3 => ?_
  refine AW.cn ?_ ?_
  ·intro hb
   have hgw := words_getD (l := W) (i := k) (by omega)
   have hwk := hW k
   have hms := memT_succ W k
   have hmk2 : memK W k = (bitsW (W.getD k 0).toNat).map fun j => 64 * k + j := rfl
   obtain ⟨x, hx⟩ : ∃ x : Nat, W.getD k 0 = (x : Int) := ⟨_, (Int.toNat_of_nonneg hwk.1).symm⟩
   have hpop := pop_r x (by omega)
   rw [hx, Int.toNat_natCast] at hmk2
   rw [hx] at hgw
   have hlen : (memT W (k + 1)).length = c + (bitsW x).length := by rw [hms, hmk2, List.length_append, List.length_map, hc]
   have hmk3 := hml (k + 1)
   refine AW.skip ?_
   refine hK3 _ _ _ ?_; clear hK3
   refine AW.seq fun K4 hK4 => ?_
   refine AW.block ?_
   refine AW.sg [3,5,10,11,12] [] (@hgw) ?_
   refine AW.ro 0 (fun ii => if ii = 2 then some (.reads false (.int .i64 ((bitsW x).length : Nat))) else none) [3,10,11,12] [] trivial ?_
   repeat with_reducible refine cj ?_ ?_
   all_goals try first | (exact hpop) | omega | exact ent (by kernel_rfl)
   refine hK4 _ _ _ ?_; clear hK4
   refine AW.rg [3,10,11,12] [] trivial ?_
   rw [← hQl1]; change Exists _
   exact ⟨_, eO, k + 1, c + (bitsW x).length, rfl, eD, eD, (⟨by omega, hlen.symm⟩)⟩
  ·intro hb
   refine AW.kx [3] [] ?_
   rw [← hQl1]
   refine hK2 _ _ _ ?_; clear hK2
   refine AW.sg [2] [] trivial ?_
   rw [← hQr]
   refine AW.rt trivial ?_
   have hkl : k = W.length := by omega
   subst hkl
   rw [hc]
   exact Wk.refl _
end Go.Proofs.B

namespace Go.Proofs.B
open Go.AM Go
set_option maxRecDepth 100000
set_option maxHeartbeats 2000000
theorem minusf_r (a b : Int) : Reads Tryz.prog 112 false [.int .u64 a, .int .u64 b] (.int .u64 (bAndNot .u64 a b)) := by
 refine Reads.body (rs := [.tmp 4]) Tryz.func112 rfl Tryz.ntmps112 rfl (by simp) ?_
 generalize hQr : retQ _ _ _ = Qr
 refine AW.sg [0,1] [] trivial ?_
 refine AW.sg [4] [] trivial ?_
 rw [← hQr]
 refine AW.rt trivial ?_
 exact Wk.refl _
theorem bmatching_r (N M : Int) (W V : List Int) (hl : W.length ≤ 9223372036854775807) (hl2 : V.length ≤ 9223372036854775807) : Reads Tryz.prog 94 false [.agg [.int .i64 N, .rsl 1 (words W)], .agg [.int .i64 M, .rsl 1 (words V)]] (.bool (validS N W && validS M V && decide (N = M))) := by
 have h1 := bvalid_r N W hl
 have h2 := bvalid_r M V hl2
 refine Reads.body (rs := [.tmp 4]) Tryz.func94 rfl Tryz.ntmps94 rfl (by simp) ?_
 generalize hQr : retQ _ _ _ = Qr
 refine AW.sg [2,3] [2,3] trivial ?_
 refine AW.so 0 (fun ii => if ii = 1 then some (.reads false (.bool (validS N W))) else if ii = 4 then some (.reads false (.bool (validS M V))) else none) [4] [] trivial ?_
 repeat with_reducible refine cj ?_ ?_
 all_goals try first | (first | exact h1 | exact h2 | (intro hh; exact ⟨hh, h2⟩)) | (intros; (repeat' apply And.intro) <;> first | assumption | (first | exact h1 | exact h2 | (intro hh; exact ⟨hh, h2⟩))) | omega | exact ent (by kernel_rfl) | (intro hgd; exact absurd hgd (by decide)) | rfl | exact gD | (intro _hgd; simp_all [go_sem]; done)
 rw [← hQr]
 refine AW.rt trivial ?_
 exact Wk.refl _
theorem copied_u (N : Int) (W : List Int) (hl : W.length ≤ 1000) : Upd Tryz.prog 95 [] [.agg [.int .i64 N, .rsl 1 (words W)]] (fun k => .agg [.int .i64 N, .sl ⟨0, k, none⟩ 0 W.length none]) (fun k => [(0, some ⟨k, k, 1, words W⟩)]) := by
 refine Upd.of_body (rs := [.cell 2 41]) Tryz.func95 rfl Tryz.ntmps95 rfl (by simp) ?_
 intro k0 k hk0 hk1
 generalize hQr : retQ _ _ _ = Qr
 refine AW.so 100 (fun _ => none) [1,2] [101,102] trivial ?_
 refine AW.sd mixed 100 (fun _ => none) [1,2,3] [101,102,103,109] trivial ?_
 refine AW.so 100 (fun _ => none) [2,3] [102,103,109] trivial ?_
 refine AW.so 100 (fun _ => none) [2] [102,109] trivial ?_
 rw [← hQr]
 refine AW.rt trivial ?_
 have e1 : words (List.take (min W.length W.length) W) ++ List.drop (min W.length W.length) (List.replicate W.length [AV.int IntKind.u64 0]) = words W := by rw [Nat.min_self, List.take_of_length_le (Nat.le_refl _), List.drop_of_length_le (by simp), List.append_nil]
 rw [e1]
 refine ⟨[(109, 0, true)], ?_⟩
 simp only [go_sem, reduceIte, zE, renC_words]
end Go.Proofs.B

namespace Go.Proofs.B
open Go.AM Go
set_option maxRecDepth 100000
set_option maxHeartbeats 2000000
def zipK (g : Int → Int → Int) (W V : List Int) (k : Nat) : List Int := (List.zipWith g W V).take k ++ W.drop k
theorem zipK_len {g : Int → Int → Int} {W V : List Int} (hl : V.length = W.length) {k : Nat} (hk : k ≤ W.length) : (zipK g W V k).length = W.length := by simp [zipK, hl]; omega
theorem zipK_get {g : Int → Int → Int} {W V : List Int} (hl : V.length = W.length) {k : Nat} (hk : k < W.length) : (zipK g W V k).getD k 0 = W.getD k 0 := by
 unfold zipK
 rw [Go.AM.getD_append, if_neg (by simp [hl]; omega)]
 simp [List.getD_eq_getElem?_getD, hl, Nat.min_eq_left (Nat.le_of_lt hk)]
theorem zipK_set {g : Int → Int → Int} {W V : List Int} (hl : V.length = W.length) {k : Nat} (hk : k < W.length) : (zipK g W V k).set k (g (W.getD k 0) (V.getD k 0)) = zipK g W V (k + 1) := by
 unfold zipK
 have h1 : ((List.zipWith g W V).take k).length = k := by simp [hl]; omega
 rw [List.set_append_right _ _ (by omega), h1, Nat.sub_self, List.drop_eq_getElem_cons hk, List.set_cons_zero, List.take_succ_eq_append_getElem (by simp [hl]; omega), List.append_assoc]
 simp [List.getD_eq_getElem?_getD, hk, show k < V.length by omega]
theorem combined_r (N M : Int) (W V : List Int) (F : Nat) (g : Int → Int → Int) (hl : W.length ≤ 1000) (hl2 : V.length ≤ 1000) (hlen : V.length = W.length) (hok : (validS N W && validS M V && decide (N = M)) = true) (he : enters Tryz.prog F = true) (hf : ∀ a b, Reads Tryz.prog F false [.int .u64 a, .int .u64 b] (.int .u64 (g a b))) :
  Reads Tryz.prog 61 false [.agg [.int .i64 N, .rsl 1 (words W)], .agg [.int .i64 M, .rsl 1 (words V)], .fn F []] (.tup [.agg [.int .i64 N, .rsl 1 (words (List.zipWith g W V))], .int .i64 ((0 : Nat) : Int)]) := by
 have hm := bmatching_r N M W V (by omega) (by omega)
 rw [hok] at hm
 have hc := copied_u N W hl
 refine Reads.body (rs := [.cell 6 41, .tmp 7]) Tryz.func61 rfl Tryz.ntmps61 rfl (by simp) ?_
 generalize hQr : retQ _ _ _ = Qr
 refine AW.sg [2,3,4,6] [3,4,6] trivial ?_
 refine AW.seq fun K1 hK1 => ?_
 refine AW.so 0 (fun ii => if ii = 2 then some (.reads false (.bool true)) else none) [2,3,4,6,14] [3,4,6] trivial ?_
 repeat with_reducible refine cj ?_ ?_
 all_goals try first | (exact hm) | omega | exact ent (by kernel_rfl)
 refine AW.cn ?_ ?_
 ·intro hb
  simp at hb
 ·intro hb
  refine AW.skip ?_
  refine hK1 _ _ _ ?_; clear hK1
  refine AW.so 0 (fun ii => if ii = 1 then some (.upd [] (fun k => [(0, some ⟨k, k, 1, words W⟩)]) (fun k => .agg [.int .i64 N, .sl ⟨0, k, none⟩ 0 W.length none])) else none) [2,4,6,8] [4,6,8,17] trivial ?_
  repeat with_reducible refine cj ?_ ?_
  all_goals try first | (exact hc) | omega | exact ent (by kernel_rfl)
  refine AW.seq fun K2 hK2 => ?_
  refine AW.sg [2,6,8,19,20,21] [6,8,17] trivial ?_
  refine AW.block ?_
  refine AW.loopE (fun mm ee ss kk => ∃ (k g6 v6 g8 v8 g17 v17 : Nat), W.length - k = mm ∧ ee = [(2, .fn F []), (6, .ptr ⟨6, g6, none⟩ 0 0), (8, .ptr ⟨8, g8, none⟩ 0 0), (19, .rsl 1 (words V)), (20, .int .i64 V.length), (21, .int .i64 (k : Nat))] ∧ ss = [(6, some ⟨g6, v6, 2, [[.int .i64 0, .nilsl]]⟩), (8, some ⟨g8, v8, 2, [[.int .i64 N, .sl ⟨17, g17, none⟩ 0 W.length none]]⟩), (17, some ⟨g17, v17, 1, words (zipK g W V k)⟩)] ∧ (k ≤ W.length)) ?_ ?_
  ·exact ⟨_, 0, _, _, _, _, _, _, rfl, eD, eD, eT⟩
  rintro mm ee ss kk ⟨k, g6, v6, g8, v8, g17, v17, rfl, rfl, rfl, hI⟩
  generalize hQl1 : thenQ _ _ = Ql1
  refine AW.sg [2,6,8,19,20,21,22] [6,8,17] trivial ?_
  refine AW.seq fun K3 hK3 => ?_
  refine AW.cn ?_ ?_
  ·intro hb
   have hzl := zipK_len (g := g) hlen (k := k) (by omega)
   have hzg := zipK_get (g := g) hlen (k := k) (by omega)
   have hzs := zipK_set (g := g) hlen (k := k) (by omega)
   have hgv := words_getD (l := V) (i := k) (by omega)
   have hgz := words_getD (l := zipK g W V k) (i := k) (by omega)
   rw [hzg] at hgz
   have hff := hf (W.getD k 0) (V.getD k 0)
   refine AW.skip ?_
   refine hK3 _ _ _ ?_; clear hK3
   refine AW.seq fun K4 hK4 => ?_
   refine AW.block ?_
   refine AW.sg [2,6,8,9,10,19,20,21] [6,8,17] (@hgv) ?_
   refine AW.rd mixed 0 (fun ii => if ii = 10 then some (.reads false (.int .u64 (g (W.getD k 0) (V.getD k 0)))) else none) [2,6,8,19,20,21] [6,8,17] (e2 @hgz @hzl) ?_
   repeat with_reducible refine cj ?_ ?_
   all_goals try first | (first | exact hff | exact he) | omega | exact chk (by kernel_rfl) | exact ent (by kernel_rfl)
   refine hK4 _ _ _ ?_; clear hK4
   refine AW.rg [2,6,8,19,20,21] [6,8,17] trivial ?_
   rw [← hQl1]; change Exists _
   refine ⟨_, ?hm, k + 1, ?_, ?_, ?_, ?_, ?_, ?_, rfl, ?henv, ?hstore, ?hst⟩
   case henv =>
    repeat' (first | rfl | apply env_cons | apply st_cons | apply int_eq | apply bool_eq | apply rsl_eq | apply osl_eq | apply sl_eq | apply ptr_eq | apply agg_eq | apply es_cons | apply row_cons)
    all_goals (first | (simp; done) | omega | (simp; omega))
   case hstore =>
    repeat' (first | rfl | apply env_cons | apply st_cons | apply int_eq | apply bool_eq | apply rsl_eq | apply osl_eq | apply sl_eq | apply ptr_eq | apply agg_eq | apply es_cons | apply row_cons)
    all_goals (rw [← hzs])
   case hst =>
    first | trivial | omega | (simp; done) | (simp; omega)
   case hm => omega
  ·intro hb
   refine AW.exit ?_
   rw [← hQl1]
   refine hK2 _ _ _ ?_; clear hK2
   refine AW.sg [6,7] [6,8,17] trivial ?_
   rw [← hQr]
   refine AW.rt trivial ?_
   have hkl : k = W.length := by omega
   subst hkl
   have hz : (zipK g W V W.length).take W.length = List.zipWith g W V := by unfold zipK; rw [List.drop_of_length_le (Nat.le_refl _), List.append_nil, List.take_take, Nat.min_self, List.take_of_length_le (by simp [hlen])]
   rw [hz]
   exact Wk.refl _
end Go.Proofs.B

namespace Go.Proofs.B
open Go.AM Go
set_option maxRecDepth 100000
set_option maxHeartbeats 2000000
theorem setB_len {b : List Bool} (h : b.length ≤ 512) : (setW b b.length).length ≤ 1000 := by
 rw [setW_len']; have := wordsN_rng (n := (b.length : Int)) (by omega); omega
theorem minus_r (a b : List Bool) (ha : a.length ≤ 512) (hl : b.length = a.length) : Reads Tryz.prog 81 false [.agg (rowB a), .agg (rowB b)] (.tup [.agg (rowB (List.zipWith (fun x y => x && !y) a b)), .int .i64 ((0 : Nat) : Int)]) := by
 have hz := zipW_setW bitOp_andNot (a := a) (b := b) hl.symm
 have h := combined_r a.length b.length (setW a a.length) (setW b b.length) 112 (bAndNot .u64) (setB_len ha) (setB_len (by omega)) (by rw [setW_len', setW_len', hl]) (by rw [validS_setW ha, validS_setW (by omega), hl]; simp) (by kernel_rfl) minusf_r
 have e : (List.zipWith (fun x y => x && !y) a b).length = a.length := by simp [hl]
 rw [hz] at h
 unfold rowB
 rw [e]
 refine Reads.body (rs := [.cell 4 41, .tmp 5]) Tryz.func81 rfl Tryz.ntmps81 rfl (by simp) ?_
 generalize hQr : retQ _ _ _ = Qr
 refine AW.sg [2,3,4] [2,3,4] trivial ?_
 refine AW.so 0 (fun ii => if ii = 2 then some (.reads false (.tup [.agg [.int .i64 a.length, .rsl 1 (words (setW (List.zipWith (fun x y => x && !y) a b) a.length))], .int .i64 ((0 : Nat) : Int)])) else none) [4,5] [4] trivial ?_
 repeat with_reducible refine cj ?_ ?_
 all_goals try first | (exact h) | omega | exact ent (by kernel_rfl)
 rw [← hQr]
 refine AW.rt trivial ?_
 exact Wk.refl _
end Go.Proofs.B

namespace Go.Proofs.B
open Go.AM Go
set_option maxRecDepth 100000
set_option maxHeartbeats 2000000
theorem memT_setW {b : List Bool} (hb : b.length ≤ 512) : memT (setW b b.length) (setW b b.length).length = memB b := by
 have hok := setW_ok b
 rw [memT_filter hok, setW_len']
 have hw := wordsN_rng (n := (b.length : Int)) (by omega)
 obtain ⟨c, hc⟩ : ∃ c, 64 * (wordsN b.length).toNat = b.length + c := ⟨64 * (wordsN b.length).toNat - b.length, by omega⟩
 rw [hc, range_add]
 have h2 : ((List.range c).filter fun j => hasW (setW b b.length) ((b.length + j : Nat) : Int)) = [] := by
  rw [List.filter_eq_nil_iff]
  intro j hj
  have hj := List.mem_range.1 hj
  rw [hasW_setW b (i := b.length + j) (by rw [setW_len']; omega)]
  simp [List.getD_eq_getElem?_getD]
 rw [h2, List.map_nil, List.append_nil]
 unfold memB
 refine List.filter_congr fun i hi => ?_
 exact hasW_row (List.mem_range.1 hi)
theorem members_b (b : List Bool) (hb : b.length ≤ 512) : Reads Tryz.prog 55 false [.agg (rowB b)] (.tup [.rsl 1 (ints (nats (memB b))), .int .i64 ((0 : Nat) : Int)]) := by
 have h := members_r b.length (setW b b.length) (validS_setW hb) (setW_ok b)
 rw [memT_setW hb] at h
 exact h
theorem count_b (b : List Bool) (hb : b.length ≤ 512) : Reads Tryz.prog 82 false [.agg (rowB b)] (.int .i64 ((memB b).length : Nat)) := by
 have h := count_r b.length (setW b b.length) (validS_setW hb) (setW_ok b)
 rw [memT_setW hb] at h
 exact h
theorem subB_count {a b : List Bool} (hl : b.length = a.length) : decide (((memB (List.zipWith (fun x y => x && !y) a b)).length : Int) = 0) = subB a b := by
 have e : (List.zipWith (fun x y => x && !y) a b).length = a.length := by simp [hl]
 refine bool_ext ?_
 rw [decide_eq_true_eq, show (((memB (List.zipWith (fun x y => x && !y) a b)).length : Int) = 0 ↔ memB (List.zipWith (fun x y => x && !y) a b) = []) from by rw [← List.length_eq_zero_iff]; omega]
 unfold memB subB
 rw [List.filter_eq_nil_iff, List.all_eq_true, e]
 constructor
 ·intro h i hi
  have := h i hi
  rw [zipB_get _ hl.symm (List.mem_range.1 hi)] at this
  cases h1 : a.getD i false <;> cases h2 : b.getD i false <;> simp_all
 ·intro h i hi
  have := h i hi
  rw [zipB_get _ hl.symm (List.mem_range.1 hi)]
  revert this
  cases a.getD i false <;> cases b.getD i false <;> decide
theorem subset_r (a b : List Bool) (ha : a.length ≤ 512) (hl : b.length = a.length) : Reads Tryz.prog 52 false [.agg (rowB a), .agg (rowB b)] (.bool (subB a b)) := by
 have hm := minus_r a b ha hl
 have e : (List.zipWith (fun x y => x && !y) a b).length = a.length := by simp [hl]
 have hc := count_b (List.zipWith (fun x y => x && !y) a b) (by omega)
 have hs := subB_count hl
 unfold rowB at *
 refine Reads.body (rs := [.tmp 4]) Tryz.func52 rfl Tryz.ntmps52 rfl (by simp) ?_
 generalize hQr : retQ _ _ _ = Qr
 refine AW.sg [2,3] [2,3] trivial ?_
 refine AW.so 0 (fun ii => if ii = 2 then some (.reads false (.tup [.agg (rowB (List.zipWith (fun x y => x && !y) a b)), .int .i64 ((0 : Nat) : Int)])) else none) [5,6] [5] (@rowB.eq_1) ?_
 repeat with_reducible refine cj ?_ ?_
 all_goals try first | (exact hm) | omega | exact ent (by kernel_rfl)
 refine AW.so 0 (fun ii => if ii = 4 then some (.reads false (.int .i64 ((memB (List.zipWith (fun x y => x && !y) a b)).length : Nat))) else none) [4] [] trivial ?_
 repeat with_reducible refine cj ?_ ?_
 all_goals try first | (first | exact hc | (intro hh; exact ⟨hh, hc⟩)) | (intros; (repeat' apply And.intro) <;> first | assumption | (first | exact hc | (intro hh; exact ⟨hh, hc⟩))) | omega | exact ent (by kernel_rfl) | (intro hgd; exact absurd hgd (by decide)) | rfl | exact gD | (intro _hgd; simp_all [go_sem]; done)
 rw [← hQr]
 refine AW.rt trivial ?_
 exact Wk.of_eq (by rw [← hs]; simp)
end Go.Proofs.B

namespace Go.Proofs.B
open Go.AM Go
set_option maxRecDepth 100000
set_option maxHeartbeats 2000000
theorem inside_r (N : Int) (W : List (List AV)) (i : Int) : Reads Tryz.prog 65 false [.agg [.int .i64 N, .rsl 1 W], .int .i64 i] (.bool (decide (0 ≤ i) && decide (i < N))) := by
 refine Reads.body (rs := [.tmp 4]) Tryz.func65 rfl Tryz.ntmps65 rfl (by simp) ?_
 generalize hQr : retQ _ _ _ = Qr
 refine AW.sg [1,2] [2] trivial ?_
 refine AW.sg [4] [] trivial ?_
 repeat with_reducible refine cj ?_ ?_
 all_goals try first | omega | (intros; (repeat' apply And.intro) <;> first | assumption | omega | decide) | (intro hgd; exact absurd hgd (by decide)) | rfl | exact gD | (intro _hgd; simp_all [go_sem]; done)
 rw [← hQr]
 refine AW.rt trivial ?_
 exact Wk.refl _
theorem bhas0_r (N : Int) (W : List Int) (i : Int) (hW : okW W) (h0 : 0 ≤ i) (h1 : i.tdiv 64 < W.length) (hl : W.length ≤ 9223372036854775807) : Reads Tryz.prog 118 false [.agg [.int .i64 N, .rsl 1 (words W)], .int .i64 i] (.bool (hasW W i)) := by
 have hd := div64_rng (i := i) (n := i + 1) h0 (by omega)
 have hgw := words_getD (l := W) (i := (i.tdiv 64).toNat) (by omega)
 have hb := bit_hasW hW h0
 refine Reads.body (rs := [.tmp 4]) Tryz.func118 rfl Tryz.ntmps118 rfl (by simp) ?_
 generalize hQr : retQ _ _ _ = Qr
 refine AW.sg [1,2] [2] trivial ?_
 refine AW.sg [4] [] (@hgw) ?_
 rw [← hQr]
 refine AW.rt trivial ?_
 exact Wk.of_eq (by rw [hb])
theorem bhas_r (N : Int) (W : List Int) (i : Int) (hW : okW W) (hl : W.length ≤ 9223372036854775807) : Reads Tryz.prog 90 false [.agg [.int .i64 N, .rsl 1 (words W)], .int .i64 i] (.bool (memS N W i)) := by
 have hv := bvalid_r N W hl
 have hin := inside_r N (words W) i
 have hh0 := fun h0 h1 => bhas0_r N W i hW h0 h1 hl
 refine Reads.body (rs := [.tmp 4]) Tryz.func90 rfl Tryz.ntmps90 rfl (by simp) ?_
 generalize hQr : retQ _ _ _ = Qr
 refine AW.sg [1,2] [2] trivial ?_
 refine AW.so 0 (fun ii => if ii = 1 then some (.reads false (.bool (validS N W))) else if ii = 5 then some (.reads false (.bool (decide (0 ≤ i) && decide (i < N)))) else if ii = 10 then some (.reads false (.bool (hasW W i))) else none) [4] [] trivial ?_
 repeat with_reducible refine cj ?_ ?_
 all_goals try first | (first | exact hv | (intro hh; exact ⟨hh, hin⟩) | (intro hh; refine ⟨hh, ?_⟩; simp at hh; have hs := validS_sz hh.1; have hd := div64_rng (i := i) (n := N) (by omega) (by omega); exact hh0 (by omega) (by omega))) | (intros; (repeat' apply And.intro) <;> first | assumption | (first | exact hv | (intro hh; exact ⟨hh, hin⟩) | (intro hh; refine ⟨hh, ?_⟩; simp at hh; have hs := validS_sz hh.1; have hd := div64_rng (i := i) (n := N) (by omega) (by omega); exact hh0 (by omega) (by omega)))) | omega | exact ent (by kernel_rfl) | (intro hgd; exact absurd hgd (by decide)) | rfl | exact gD | (intro _hgd; simp_all [go_sem]; done)
 rw [← hQr]
 refine AW.rt trivial ?_
 exact Wk.of_eq (by simp [memS, Bool.and_assoc])
end Go.Proofs.B

namespace Go.Proofs.B
open Go.AM Go
set_option maxRecDepth 100000
set_option maxHeartbeats 2000000
theorem of_r (n : Int) (l : List Int) (h0 : 0 ≤ n) (h1 : n ≤ 512) (hl : l.length ≤ 9223372036854775807) (hr : ∀ i ∈ l, 0 ≤ i ∧ i < n) :
  Reads Tryz.prog 23 true [.int .i64 n, .rsl 1 (ints l)] (.tup [.agg [.int .i64 n, .rsl 1 (words (ofW n l))], .int .i64 0]) := by
 have hwr := bwords_r n h0 (by omega)
 have hwn := wordsN_rng h0
 refine Reads.bodyF (rs := [.cell 4 41, .tmp 5]) Tryz.func23 rfl Tryz.ntmps23 rfl (by simp) ?_
 generalize hQr : retQ _ _ _ = Qr
 refine AW.sg [0,1,4] [4] trivial ?_
 refine AW.seq fun K1 hK1 => ?_
 refine AW.sg [0,1,4,14] [4] trivial ?_
 repeat with_reducible refine cj ?_ ?_
 all_goals try first | omega | (intros; (repeat' apply And.intro) <;> first | assumption | omega | decide) | (intro hgd; exact absurd hgd (by decide)) | rfl | exact gD | (intro _hgd; simp_all [go_sem]; done)
 refine AW.cn ?_ ?_
 ·intro hb
  exfalso; omega
 ·intro hb
  refine AW.skip ?_
  refine hK1 _ _ _ ?_; clear hK1
  refine AW.so 0 (fun ii => if ii = 2 then some (.reads false (.int .i64 (wordsN n))) else none) [1,4,6] [4,6,19] trivial ?_
  refine AW.seq fun K2 hK2 => ?_
  refine AW.sg [4,6,21,22,23] [4,6,19] trivial ?_
  refine AW.block ?_
  refine AW.loopE (fun mm ee ss kk => ∃ (j g4 v4 g v gw vw : Nat) (c4 : List AV), l.length - j = mm ∧ ee = [(4, .ptr ⟨4, g4, none⟩ 0 0), (6, .ptr ⟨6, g, none⟩ 0 0), (21, .rsl 1 (ints l)), (22, .int .i64 l.length), (23, .int .i64 (j : Nat))] ∧ ss = [(4, some ⟨g4, v4, 2, [[.int .i64 0, .nilsl]]⟩), (6, some ⟨g, v, 2, [[.int .i64 n, .sl ⟨19, gw, none⟩ 0 (wordsN n).toNat none]]⟩), (19, some ⟨gw, vw, 1, words (ofW n (l.take j))⟩)] ∧ (j ≤ l.length)) ?_ ?_
  ·refine ⟨_, 0, ?_, ?_, ?_, ?_, ?_, ?_, [], rfl, ?henv, ?hstore, ?hst⟩
   case henv =>
    repeat' (first | rfl | apply env_cons | apply st_cons | apply int_eq | apply bool_eq | apply rsl_eq | apply osl_eq | apply sl_eq | apply ptr_eq | apply agg_eq | apply es_cons | apply row_cons)
    all_goals (first | (simp; done) | omega | (simp; omega))
   case hstore =>
    repeat' (first | rfl | apply env_cons | apply st_cons | apply int_eq | apply bool_eq | apply rsl_eq | apply osl_eq | apply sl_eq | apply ptr_eq | apply agg_eq | apply es_cons | apply row_cons)
    all_goals simp [ofW, words]
   case hst =>
    first | trivial | omega | (simp; done) | (simp; omega)
  rintro mm ee ss kk ⟨j, g4, v4, g, v, gw, vw, c4, rfl, rfl, rfl, hI⟩
  generalize hQl1 : thenQ _ _ = Ql1
  refine AW.sg [4,6,21,22,23,24] [4,6,19] trivial ?_
  refine AW.seq fun K3 hK3 => ?_
  refine AW.cn ?_ ?_
  ·intro hb
   obtain ⟨x, hx⟩ := getI (l := l) (j := j) (by omega)
   have hgx := ints_get hx
   have hxr := hr x (List.mem_of_getElem? hx)
   have hwl := ofW_len n (l.take j)
   have hd := div64_rng hxr.1 hxr.2
   have hgw := words_getD (l := ofW n (l.take j)) (i := (x.tdiv 64).toNat) (by omega)
   have hsu := ofW_succ (n := n) hx
   have hin := inside_r n (words (ofW n (l.take j))) x
   have hwt : (words (ofW n (l.take j))).take (wordsN n).toNat = words (ofW n (l.take j)) := by rw [words_take, List.take_of_length_le (by omega)]
   refine AW.skip ?_
   refine hK3 _ _ _ ?_; clear hK3
   refine AW.seq fun K4 hK4 => ?_
   refine AW.block ?_
   refine AW.sg [4,6,8,21,22,23] [4,6,19] (@hgx) ?_
   refine AW.seq fun K5 hK5 => ?_
   refine AW.so 0 (fun ii => if ii = 2 then some (.reads true (.bool (decide (0 ≤ x) && decide (x < n)))) else none) [4,6,8,21,22,23,30] [4,6,19] (@hwt) ?_
   repeat with_reducible refine cj ?_ ?_
   all_goals try first | (exact Reads.flat hin rfl) | omega | exact ent (by kernel_rfl)
   refine AW.cn ?_ ?_
   ·intro hb
    exfalso; omega
   ·intro hb
    refine AW.skip ?_
    refine hK5 _ _ _ ?_; clear hK5
    refine AW.rd mixed 0 (fun _ => none) [4,6,21,22,23] [4,6,19] (e2 @hgw @hwl) ?_
    refine hK4 _ _ _ ?_; clear hK4
    refine AW.rg [4,6,21,22,23] [4,6,19] trivial ?_
    rw [← hQl1]; change Exists _
    refine ⟨_, ?hm, j + 1, ?_, ?_, ?_, ?_, ?_, ?_, [], rfl, ?henv, ?hstore, ?hst⟩
    case henv =>
     repeat' (first | rfl | apply env_cons | apply st_cons | apply int_eq | apply bool_eq | apply rsl_eq | apply osl_eq | apply sl_eq | apply ptr_eq | apply agg_eq | apply es_cons | apply row_cons)
     all_goals (first | (simp; done) | omega | (simp; omega))
    case hstore =>
     repeat' (first | rfl | apply env_cons | apply st_cons | apply int_eq | apply bool_eq | apply rsl_eq | apply osl_eq | apply sl_eq | apply ptr_eq | apply agg_eq | apply es_cons | apply row_cons)
     all_goals (rw [hsu]; simp [setBit])
    case hst =>
     first | trivial | omega | (simp; done) | (simp; omega)
    case hm => omega
  ·intro hb
   refine AW.kx [4,6] [4,6,19] ?_
   rw [← hQl1]
   refine hK2 _ _ _ ?_; clear hK2
   refine AW.sg [4,5] [4,19] trivial ?_
   rw [← hQr]
   refine AW.rt trivial ?_
   rw [List.take_of_length_le (by rw [ofW_len]; exact Nat.le_refl _), List.take_of_length_le (l := l) (by omega)]
   exact Wk.refl _
end Go.Proofs.B

namespace Go.Proofs.B
open Go.AM Go
set_option maxRecDepth 100000
set_option maxHeartbeats 2000000
def pvJ (t : List (List Bool)) (i j : Nat) : Bool := !decide (j = i) && subB (rowT t j) (rowT t i)
theorem pvalid_g (n : Nat) (t : List (List Bool)) (hs : Sq n t) (hn : n ≤ 512) : Reads Tryz.prog 58 false [relB t] (.bool (poB n t)) := by
 have h := valid_g n t hs hn
 have hlt : (tabR t).length = n := by rw [tabR_len, hs.len]
 have hgr := fun i hi => tabR_get (t := t) (i := i) hi
 have hmb := fun b hb => members_b b hb
 have hsb := fun a b ha hl => subset_r a b ha hl
 have hpo : poB n t = (List.range n).all fun i => (memB (rowT t i)).all (pvJ t i) := rfl
 have hlen := hs.len
 unfold relB rowB at *
 refine Reads.body (rs := [.tmp 2]) Tryz.func58 rfl Tryz.ntmps58 rfl (by simp) ?_
 generalize hQr : retQ _ _ _ = Qr
 refine AW.sg [1] [1] (@hlt) ?_
 refine AW.seq fun K1 hK1 => ?_
 refine AW.so 0 (fun ii => if ii = 1 then some (.reads false (.bool true)) else none) [1,11] [1] (@hlt) ?_
 repeat with_reducible refine cj ?_ ?_
 all_goals try first | (exact h) | omega | exact ent (by kernel_rfl)
 refine AW.cn ?_ ?_
 ·intro hb
  simp at hb
 ·intro hb
  refine AW.skip ?_
  refine hK1 _ _ _ ?_; clear hK1
  refine AW.seq fun K2 hK2 => ?_
  refine AW.sg [1,13,14,15] [1] (@hlt) ?_
  refine AW.block ?_
  refine AW.loopE (fun mm ee ss kk => ∃ (i g1 v1 : Nat), n - i = mm ∧ ee = [(1, .ptr ⟨1, g1, none⟩ 0 0), (13, .rsl 2 (tabR t)), (14, .int .i64 n), (15, .int .i64 (i : Nat))] ∧ ss = [(1, some ⟨g1, v1, 1, [[.rsl 2 (tabR t)]]⟩)] ∧ (i ≤ n ∧ ((List.range i).all fun i => (memB (rowT t i)).all (pvJ t i)) = true)) ?_ ?_
  ·exact ⟨_, 0, _, _, rfl, eD, eD, (⟨Nat.zero_le _, rfl⟩)⟩
  rintro mm ee ss kk ⟨i, g1, v1, rfl, rfl, rfl, hI⟩
  generalize hQl1 : thenQ _ _ = Ql1
  obtain ⟨hi, hall⟩ := hI
  refine AW.sg [1,13,14,15,16] [1] (@hlt) ?_
  refine AW.seq fun K3 hK3 => ?_
  refine AW.cn ?_ ?_
  ·intro hb
   have hgi := hgr i (by omega)
   have hri := hs.rowLen (i := i) (by omega)
   have hmi := hmb (rowT t i) (by omega)
   have hsi := fun j (hj : j < n) => hsb (rowT t j) (rowT t i) (by rw [hs.rowLen hj]; exact hn) (by rw [hs.rowLen hj, hri])
   have hmm : ∀ j, j ∈ memB (rowT t i) → j < n := fun j hj => by have := (memB_mem.1 hj).1; omega
   have hml := memB_le (rowT t i)
   have hrs := range_all_succ (p := fun i => (memB (rowT t i)).all (pvJ t i)) i
   rw [hall, Bool.true_and] at hrs
   have hrf := range_all_false (p := fun i => (memB (rowT t i)).all (pvJ t i)) (j := i) (m := n) (by omega)
   generalize hM : memB (rowT t i) = M at *
   refine AW.skip ?_
   refine hK3 _ _ _ ?_; clear hK3
   refine AW.seq fun K4 hK4 => ?_
   refine AW.block ?_
   refine AW.sg [1,3,4,13,14,15] [1,4] (e2 @hlt @hgi) ?_
   refine AW.so 0 (fun ii => if ii = 1 then some (.reads false (.tup [.rsl 1 (ints (nats M)), .int .i64 ((0 : Nat) : Int)])) else none) [1,3,4,5,13,14,15] [1,4] (@hlt) ?_
   repeat with_reducible refine cj ?_ ?_
   all_goals try first | (exact hmi) | omega | exact ent (by kernel_rfl)
   refine AW.sg [1,3,4,13,14,15,25,26,27] [1,4] (e3 @hlt @ints_len @nats_len) ?_
   refine AW.block ?_
   refine AW.loopE (fun mm ee ss kk => ∃ (j g1 v1 g4 v4 : Nat), M.length - j = mm ∧ ee = [(1, .ptr ⟨1, g1, none⟩ 0 0), (3, .int .i64 (i : Nat)), (4, .ptr ⟨4, g4, none⟩ 0 0), (13, .rsl 2 (tabR t)), (14, .int .i64 n), (15, .int .i64 (i : Nat)), (25, .rsl 1 (ints (nats M))), (26, .int .i64 M.length), (27, .int .i64 (j : Nat))] ∧ ss = [(1, some ⟨g1, v1, 1, [[.rsl 2 (tabR t)]]⟩), (4, some ⟨g4, v4, 2, [[.int .i64 (rowT t i).length, .rsl 1 (words (setW (rowT t i) (rowT t i).length))]]⟩)] ∧ (j ≤ M.length ∧ (M.take j).all (pvJ t i) = true)) ?_ ?_
   ·exact ⟨_, 0, _, _, _, _, rfl, eD, eD, (⟨Nat.zero_le _, rfl⟩)⟩
   rintro mm ee ss kk ⟨j, g1, v1, g4, v4, rfl, rfl, rfl, hI⟩
   generalize hQl2 : thenQ _ _ = Ql2
   obtain ⟨hj, hallj⟩ := hI
   refine AW.sg [1,3,4,13,14,15,25,26,27,28] [1,4] (@hlt) ?_
   refine AW.seq fun K5 hK5 => ?_
   refine AW.cn ?_ ?_
   ·intro hb
    obtain ⟨q, hq⟩ := getI (l := M) (j := j) (by omega)
    have hgq : (ints (nats M)).getD j [] = [.int .i64 (q : Nat)] := ints_get (by simp [nats, hq])
    have hqn := hmm q (List.mem_of_getElem? hq)
    have hgt := hgr q (by omega)
    have hsq := hsi q hqn
    have hats := all_take_succ (p := pvJ t i) hq
    have haf := all_false_of (p := pvJ t i) hq
    have hqi : decide ((q : Int) = (i : Int)) = decide (q = i) := decide_eq_decide.2 (by omega)
    have hpv : pvJ t i q = (!decide (q = i) && subB (rowT t q) (rowT t i)) := rfl
    refine AW.skip ?_
    refine hK5 _ _ _ ?_; clear hK5
    refine AW.seq fun K6 hK6 => ?_
    refine AW.block ?_
    refine AW.sg [1,3,4,8,13,14,15,25,26,27] [1,4] (e4 @hlt @hgq @ints_len @nats_len) ?_
    refine AW.sd mixed 0 (fun ii => if ii = 10 then some (.reads false (.bool (subB (rowT t q) (rowT t i)))) else none) [1,3,4,13,14,15,25,26,27,43] [1,4] (e3 @hlt @hgt @hqi) ?_
    repeat with_reducible refine cj ?_ ?_
    all_goals try first | (first | exact hsq | (intro hh; exact hsq)) | (intros; (repeat' apply And.intro) <;> first | assumption | (first | exact hsq | (intro hh; exact hsq))) | omega | exact chk (by kernel_rfl) | exact ent (by kernel_rfl) | (intro hgd; exact absurd hgd (by decide)) | rfl | (simp only [go_sem, reduceIte, reduceCtorEq, zA, zM, zE, zL, zD, zS, zP, zB, zI, zR, hlt, hgt, hqi]; done) | (intro _hgd; simp_all [go_sem]; done)
    refine AW.cn ?_ ?_
    ·intro hb
     refine AW.sg [2] [] (@hlt) ?_
     rw [← hQl2, ← hQl1, ← hQr]
     refine AW.rt (@hlt) ?_
     refine Wk.of_eq ?_
     rw [hpo, hrf (haf (by rw [hpv]; revert hb; by_cases e : q = i <;> cases subB (rowT t q) (rowT t i) <;> simp [e]))]
    ·intro hb
     refine AW.skip ?_
     refine hK6 _ _ _ ?_; clear hK6
     refine AW.rg [1,3,4,13,14,15,25,26,27] [1,4] (@hlt) ?_
     rw [← hQl2]; change Exists _
     refine ⟨_, eO, j + 1, _, _, _, _, rfl, eD, eD, ?_⟩
     refine ⟨by omega, ?_⟩
     rw [hats, hallj, hpv]; revert hb; by_cases e : q = i <;> cases subB (rowT t q) (rowT t i) <;> simp [e]
   ·intro hb
    have hj2 : j = M.length := by omega
    subst hj2
    rw [List.take_of_length_le (Nat.le_refl _)] at hallj
    refine AW.kx [1,13,14,15] [1] ?_
    rw [← hQl2]
    refine hK4 _ _ _ ?_; clear hK4
    refine AW.rg [1,13,14,15] [1] (@hlt) ?_
    rw [← hQl1]; change Exists _
    refine ⟨_, eO, i + 1, _, _, rfl, eD, eD, ?_⟩
    refine ⟨by omega, ?_⟩
    rw [hrs, hallj]
  ·intro hb
   refine AW.kx [] [] ?_
   rw [← hQl1]
   refine hK2 _ _ _ ?_; clear hK2
   refine AW.sg [2] [] (@hlt) ?_
   rw [← hQr]
   refine AW.rt (@hlt) ?_
   have hi2 : i = n := by omega
   subst hi2
   exact Wk.of_eq (by rw [hpo, hall])
end Go.Proofs.B

namespace Go.Proofs.B
open Go.AM Go
set_option maxRecDepth 100000
set_option maxHeartbeats 2000000
theorem pvalid_e (rs : List USet) (hl : longR rs) (hv : validR rs = false) : Reads Tryz.prog 58 false [relV rs] (.bool false) := by
 have h := rvalid_r rs hl.1 hl.2
 rw [hv] at h
 unfold relV at *
 refine Reads.body (rs := [.tmp 2]) Tryz.func58 rfl Tryz.ntmps58 rfl (by simp) ?_
 generalize hQr : retQ _ _ _ = Qr
 refine AW.sg [1] [1] trivial ?_
 refine AW.seq fun K1 hK1 => ?_
 refine AW.so 0 (fun ii => if ii = 1 then some (.reads false (.bool false)) else none) [1,11] [1] trivial ?_
 repeat with_reducible refine cj ?_ ?_
 all_goals try first | (exact h) | omega | exact ent (by kernel_rfl)
 refine AW.cn ?_ ?_
 ·intro hb
  refine AW.sg [2] [] trivial ?_
  rw [← hQr]
  refine AW.rt trivial ?_
  exact Wk.refl _
 ·intro hb
  simp at hb
theorem memS_row {b : List Bool} (hb : b.length ≤ 512) (i : Int) : memS b.length (setW b b.length) i = (decide (0 ≤ i) && decide (i < b.length) && b.getD i.toNat false) := by
 unfold memS
 rw [validS_setW hb, Bool.true_and]
 by_cases h0 : 0 ≤ i
 ·by_cases h1 : i < b.length
  ·rw [decide_eq_true h0, decide_eq_true h1, Bool.true_and, Bool.true_and, Bool.true_and, setW_mem h0 h1]
  ·rw [decide_eq_false h1]; simp
 ·rw [decide_eq_false h0]; simp
theorem rowH_r (b : List Bool) (hb : b.length ≤ 512) (i : Int) : Reads Tryz.prog 90 false [.agg (rowB b), .int .i64 i] (.bool (decide (0 ≤ i) && decide (i < b.length) && b.getD i.toNat false)) := by
 have h := bhas_r b.length (setW b b.length) i (setW_ok b) (by have := setW_len' b; have := wordsN_rng (n := (b.length : Int)) (by omega); omega)
 rw [memS_row hb] at h
 exact h
end Go.Proofs.B

namespace Go.Proofs.B
open Go.AM Go
set_option maxRecDepth 100000
set_option maxHeartbeats 2000000
theorem ofRow_r (n : Nat) (l : List Int) (h1 : n ≤ 512) (hl : l.length ≤ 9223372036854775807) (hr : ∀ i ∈ l, 0 ≤ i ∧ i < n) :
  Reads Tryz.prog 23 true [.int .i64 n, .rsl 1 (ints l)] (.tup [.agg (rowB (rowL n l)), .int .i64 ((0 : Nat) : Int)]) := by
 have h := of_r n l (by omega) (by omega) hl hr
 rw [ofW_row hr] at h
 unfold rowB
 rw [rowL_len]
 exact h
end Go.Proofs.B

namespace Go.Proofs.B
open Go.AM Go
set_option maxRecDepth 100000
set_option maxHeartbeats 2000000
theorem pmatch_g (n : Nat) (t : List (List Bool)) (N : Int) (W : List Int) (hs : Sq n t) (hn : n ≤ 512) (hl : W.length ≤ 9223372036854775807) : Reads Tryz.prog 89 false [relB t, .agg [.int .i64 N, .rsl 1 (words W)]] (.bool (poB n t && validS N W && decide (N = n))) := by
 have h := pvalid_g n t hs hn
 have hv := bvalid_r N W hl
 have hlt : (tabR t).length = n := by rw [tabR_len, hs.len]
 unfold relB at *
 refine Reads.body (rs := [.tmp 4]) Tryz.func89 rfl Tryz.ntmps89 rfl (by simp) ?_
 generalize hQr : retQ _ _ _ = Qr
 refine AW.sg [2,3] [2,3] (@hlt) ?_
 refine AW.so 0 (fun ii => if ii = 1 then some (.reads false (.bool (poB n t))) else if ii = 4 then some (.reads false (.bool (validS N W))) else none) [4] [] (@hlt) ?_
 repeat with_reducible refine cj ?_ ?_
 all_goals try first | (first | exact h | (intro hh; exact ⟨hh, hv⟩)) | (intros; (repeat' apply And.intro) <;> first | assumption | (first | exact h | (intro hh; exact ⟨hh, hv⟩))) | omega | exact ent (by kernel_rfl) | (intro hgd; exact absurd hgd (by decide)) | rfl | (simp only [go_sem, reduceIte, reduceCtorEq, zA, zM, zE, zL, zD, zS, zP, zB, zI, zR, hlt]; done) | (intro _hgd; simp_all [go_sem]; done)
 rw [← hQr]
 refine AW.rt (@hlt) ?_
 exact Wk.refl _
theorem pmatch_t (n : Nat) (t : List (List Bool)) (hs : Sq n t) (hn : n ≤ 512) (hp : poB n t = true) (b : List Bool) (hb : b.length = n) : Reads Tryz.prog 89 false [relB t, .agg (rowB b)] (.bool true) := by
 have h := pmatch_g n t b.length (setW b b.length) hs hn (by have := setB_len (b := b) (by omega); omega)
 rw [hp, validS_setW (by omega), hb] at h
 unfold rowB
 rw [hb]
 simp only [Bool.and_self, decide_true] at h
 exact h
end Go.Proofs.B

namespace Go.Proofs.B
open Go.AM Go
set_option maxRecDepth 100000
set_option maxHeartbeats 2000000
end Go.Proofs.B

/- A set is valid exactly if no bit behind its numbers is set. -/
namespace Go.AM
end Go.AM

namespace Go.Proofs.B
open Go.AM Go
set_option maxRecDepth 100000
set_option maxHeartbeats 2000000
end Go.Proofs.B

/- A contract that makes memory answers as one that reads. -/
namespace Go.AM
theorem Upd.reads {P : Program} {f : FuncId} {args : List AV} {res : Nat → AV} {s1 : Nat → Store} {r : AV} (h : Upd P f [] args res s1) (hr : Wk (vwF (s1 0) 5 (res 0)) r) : Reads P f true args r := by
  intro w F us hF hgl hl hrel
  have hr' : ∀ i, i < args.length → Rel ⟨fun _ => none, [], clk 0, w, fun _ => False⟩ (args.getD i .any) (us.getD i undef) := fun i hi => .pure _ _ ((hrel i hi).mono fun b hb => ⟨⟨hb.1, fun ⟨π, y, base, h1, _⟩ => by simp [pcontent, sget] at h1, fun h => h⟩, rfl⟩)
  have hst : StOk ⟨fun _ => none, [], clk 0, w, fun _ => False⟩ := start_ok (fun _ h => h.elim) (hgl.mono fun b hb => ⟨⟨hb.1, fun h => h⟩, rfl⟩)
  refine (h (clk 0) 0 0 (fun _ => none) w (fun _ => False) us (fun g hg => hg) (fun hg => Nat.lt_irrefl _ hg) (fun hg => absurd hg (Nat.not_lt_zero _)) hst hl hr').mono fun e w' ⟨u, ρ', h1, h2, h3⟩ => ⟨u, h1, ?_, ?_⟩
  · exact ⟨h2.ext.os, h2.ext.tape, h2.ext.output, h2.ext.size, fun b hb _ => h2.ext.block b hb fun ⟨π, y, base, e1, _⟩ => by simp [pcontent, sget] at e1, h2.ext.drawn⟩
  · refine hr _ _ _ (vwF_sound h2.ok (fun b hb => ⟨?_, fun hlt => ?_⟩) 5 (res 0) u h3)
    · obtain ⟨π, y, base, k1, k2⟩ := hb
      exact h2.ok.live_lt k1 k2
    · simp only [if_true] at hlt
      exact (h2.le.imm b ⟨hlt, fun ⟨π, y, base, e1, _⟩ => by simp [pcontent, sget] at e1, fun h => h⟩).1.2.1 hb
/-- A contract that reads, at roots that are given away. -/
theorem Reads.upd {P : Program} {f : FuncId} {s0 : Store} {args args' : List AV} {r : AV} (h : Reads P f true args' r) (ha : args.map (vw s0 5) = args') : Upd P f s0 args (fun _ => r) (fun _ => []) := by
  subst ha
  intro c B k ρ w F us _ _ _ hst hl hrel
  have hargs : ∀ i, i < (args.map (vw s0 5)).length → RelP (immF w fun _ => False) w ((args.map (vw s0 5)).getD i .any) (us.getD i undef) := fun i hi => by
    rw [List.length_map] at hi
    rw [getD_map_vw (vw s0 5) _ _ .any _ hi]
    exact vw_sound hst (fun b hb _ => ⟨hb, fun e => e⟩) 5 _ _ (hrel i hi)
  refine (h w (fun _ => False) us (fun _ h => h.elim) (hst.gl.mono fun b hb => ⟨⟨hb.1, fun e => e⟩, rfl⟩) (by simpa using hl) hargs).mono fun e w' ⟨u, h1, h2, h3⟩ => ⟨u, ρ, h1, ?_, ?_⟩
  · exact hst.goes_grow (s' := []) (fun id R e => by simp [sget] at e) (fun g hg => .inl hg) h2
  · refine .pure _ _ (h3.mono fun b hb => ⟨⟨hb.1, fun ⟨π, y, base, e1, _⟩ => by simp [pcontent, sget] at e1, fun hf => ?_⟩, rfl⟩)
    simp only [if_true] at hb
    exact hb.2 (hst.apart b hf).1
end Go.AM

namespace Go.Proofs.B
open Go.AM Go
set_option maxRecDepth 100000
set_option maxHeartbeats 2000000
end Go.Proofs.B

/- A row that takes another one bit by bit, in a table. -/
namespace Go.AM
section
variable {n : Nat} {U : List (List Bool)} (h : Sq n U) {i k : Nat} (hi : i < n) (hk : k < n)
include h hi hk
end
end Go.AM

namespace Go.Proofs.B
open Go.AM Go
set_option maxRecDepth 100000
set_option maxHeartbeats 2000000
end Go.Proofs.B

/- Plain facts on the reference's functions over orders. -/
namespace Go.AM
end Go.AM

namespace Go.Proofs.B
open Go.AM Go
set_option maxRecDepth 100000
set_option maxHeartbeats 2000000
end Go.Proofs.B

namespace Go.Proofs.B
open Go.AM Go
set_option maxRecDepth 100000
set_option maxHeartbeats 2000000
theorem nats_get {M : List Nat} {k q : Nat} (hq : M[k]? = some q) : (ints (nats M)).getD k [] = [.int .i64 (q : Nat)] := ints_get (by simp [nats, hq])
theorem nats_getD {M : List Nat} {k : Nat} (hk : k < M.length) : (ints (nats M)).getD k [] = [.int .i64 (M.getD k 0 : Nat)] := by
 obtain ⟨q, hq⟩ := getI (l := M) (j := k) hk
 rw [getD_of hq]; exact nats_get hq
end Go.Proofs.B

namespace Go.Proofs.B
open Go.AM Go
set_option maxRecDepth 100000
set_option maxHeartbeats 2000000
theorem eqi_refl (l : List Int) (hl : l.length ≤ 9223372036854775807) : Reads Tryz.prog 28 false [.rsl 1 (ints l), .rsl 1 (ints l)] (.bool true) := by
 refine Reads.body (rs := [.tmp 4]) Tryz.func28 rfl Tryz.ntmps28 rfl (by simp) ?_
 generalize hQr : retQ _ _ _ = Qr
 refine AW.sg [0,1] [] trivial ?_
 refine AW.seq fun K1 hK1 => ?_
 refine AW.sg [0,1,10] [] trivial ?_
 refine AW.cn ?_ ?_
 ·intro hb
  exfalso; simp at hb
 ·intro hb
  refine AW.skip ?_
  refine hK1 _ _ _ ?_; clear hK1
  refine AW.seq fun K2 hK2 => ?_
  refine AW.sg [0,1,12,13] [] trivial ?_
  refine AW.block ?_
  refine AW.loopE (fun mm ee ss kk => ∃ (j : Nat), l.length - j = mm ∧ ee = [(0, .rsl 1 (ints l)), (1, .rsl 1 (ints l)), (12, .int .i64 l.length), (13, .int .i64 (j : Nat))] ∧ ss = [] ∧ (j ≤ l.length)) ?_ ?_
  ·exact ⟨_, 0, rfl, eD, eD, eT⟩
  rintro mm ee ss kk ⟨j, rfl, rfl, rfl, hI⟩
  generalize hQl1 : thenQ _ _ = Ql1
  refine AW.sg [0,1,12,13,14] [] trivial ?_
  refine AW.seq fun K3 hK3 => ?_
  refine AW.cn ?_ ?_
  ·intro hb
   have hgl := ints_getD (l := l) (i := j) (by omega)
   refine AW.skip ?_
   refine hK3 _ _ _ ?_; clear hK3
   refine AW.seq fun K4 hK4 => ?_
   refine AW.block ?_
   refine AW.sg [0,1,5,12,13] [] trivial ?_
   refine AW.sd mixed 0 (fun _ => none) [0,1,12,13,24] [] (@hgl) ?_
   refine AW.cn ?_ ?_
   ·intro hb
    exfalso; simp at hb
   ·intro hb
    refine AW.skip ?_
    refine hK4 _ _ _ ?_; clear hK4
    refine AW.rg [0,1,12,13] [] trivial ?_
    rw [← hQl1]; change Exists _
    exact ⟨_, eO, j + 1, rfl, eD, eD, eT⟩
  ·intro hb
   refine AW.kx [] [] ?_
   rw [← hQl1]
   refine hK2 _ _ _ ?_; clear hK2
   refine AW.sg [4] [] trivial ?_
   rw [← hQr]
   refine AW.rt trivial ?_
   exact Wk.refl _
theorem longR_SB {n : Nat} {t : List (List Bool)} (hs : Sq n t) (hn : n ≤ 512) : longR (t.map SB) := ⟨by simp [hs.len]; omega, fun x hx => by
 obtain ⟨b, hb, rfl⟩ := List.mem_map.1 hx
 have := setB_len (b := b) (by rw [hs.row b hb]; exact hn)
 show (setW b b.length).length ≤ _; omega⟩
end Go.Proofs.B

/- Laws of orders. -/
namespace Go.AM
/-! ### Levels. -/
/-! ### Closed sets. -/
theorem upT_len (n : Nat) (t : List (List Bool)) (b : List Bool) : (upT n t b).length = n := setR_len _ _
theorem upT_get {n : Nat} {t : List (List Bool)} {b : List Bool} {j : Nat} (hj : j < n) : (upT n t b).getD j false = (b.getD j false || abvF n t b j) := setR_get hj
theorem upT_iff {n : Nat} {t : List (List Bool)} {b : List Bool} {j : Nat} (hj : j < n) : (upT n t b).getD j false = true ↔ b.getD j false = true ∨ ∃ i, i < n ∧ b.getD i false = true ∧ atT t i j = true := by
  rw [upT_get hj, Bool.or_eq_true]
  refine or_congr Iff.rfl ?_
  unfold abvF
  rw [List.any_eq_true]
  constructor
  · rintro ⟨i, h1, h2⟩; rw [Bool.and_eq_true] at h2; exact ⟨i, List.mem_range.1 h1, h2⟩
  · rintro ⟨i, h1, h2, h3⟩; exact ⟨i, List.mem_range.2 h1, by rw [h2, h3]; rfl⟩
end Go.AM

namespace Go.Proofs.B
open Go.AM Go
set_option maxRecDepth 100000
set_option maxHeartbeats 2000000
/-- No order. -/
def BadP (rs : List USet) : Prop := validR rs = false ∨ ∃ t, rs = t.map SB ∧ Sq rs.length t ∧ rs.length ≤ 512 ∧ poB rs.length t = false
/-- A relation is an order, or it is none. -/
theorem rel_cases (rs : List USet) (hok : ∀ x ∈ rs, okW x.W) : (∃ t, rs = t.map SB ∧ Sq rs.length t ∧ rs.length ≤ 512 ∧ poB rs.length t = true) ∨ BadP rs := by
 cases hv : validR rs
 ·exact .inr (.inl hv)
 ·obtain ⟨t, h1, hs, hn⟩ := rel_of hok hv
  cases hp : poB rs.length t
  ·exact .inr (.inr ⟨t, h1, hs, hn, hp⟩)
  ·exact .inl ⟨t, h1, hs, hn, hp⟩
end Go.Proofs.B

/- The reference's down-set: a list that grows behind its first part. -/
namespace Go.AM
end Go.AM

/- append at a slice that has another name: the other name keeps its elements. -/
namespace Go.AM
end Go.AM

/- The region that appends one number to a list of numbers that has another name. -/
namespace Go.AM
end Go.AM

namespace Go.Proofs.B
open Go.AM Go
set_option maxRecDepth 100000
set_option maxHeartbeats 2000000
end Go.Proofs.B

namespace Go.Proofs.B
open Go.AM Go
set_option maxRecDepth 100000
set_option maxHeartbeats 2000000
theorem tz16_r : Reads Tryz.prog 158 false [.int .u64 ((16 : Nat) : Int)] (.int .i64 ((4 : Nat) : Int)) := by
 have h := tz_r 16 (by decide) (by decide) 4 (by decide) (by decide)
 refine Reads.body (rs := [.tmp 2]) Tryz.func158 rfl Tryz.ntmps158 rfl (by simp) ?_
 generalize hQr : retQ _ _ _ = Qr
 refine AW.sg [0] [] trivial ?_
 refine AW.seq fun K1 hK1 => ?_
 refine AW.cn ?_ ?_
 ·intro hb
  cases hb
 ·intro hb
  refine AW.skip ?_
  refine hK1 _ _ _ ?_; clear hK1
  refine AW.so 0 (fun ii => if ii = 1 then some (.reads false (.int .i64 ((4 : Nat) : Int))) else none) [2] [] trivial ?_
  repeat with_reducible refine cj ?_ ?_
  all_goals try first | (exact h) | omega | exact ent (by kernel_rfl)
  rw [← hQr]
  refine AW.rt trivial ?_
  exact Wk.of_eq rfl
end Go.Proofs.B

/- A run draws no fewer answers than it began with. -/
namespace Go.AM
theorem ask_drawn {α : Type} : ∀ (q : Ask α) (w : World), w.drawn ≤ (w.ask q).2.drawn := by
  intro q
  induction q with
  | done a => intro w; exact Nat.le_refl _
  | ask what range k ih =>
    intro w
    simp only [World.ask]
    split
    · exact ih _ _
    · exact Nat.le_trans (Nat.le_succ _) (ih _ { w with drawn := w.drawn + 1 })
theorem except_bind_ok {ε α β : Type} {x : Except ε α} {f : α → Except ε β} {r : β} (h : x >>= f = .ok r) : ∃ a, x = .ok a ∧ f a = .ok r := by
  cases x with
  | error e => cases h
  | ok a => exact ⟨a, rfl, h⟩
theorem viewStore_drawn {P : Program} {w : World} {at_ : Addr} {u : TypeId} {k : Addr} {v : Value} {atomic : Bool} {r : World × List Addr} (h : w.viewStore P at_ u k v atomic = .ok r) : r.1.drawn = w.drawn := by
  unfold World.viewStore at h
  dsimp only at h
  iterate 12 (all_goals (try (first | (split at h) | (obtain ⟨_, h0, h⟩ := except_bind_ok h; try dsimp only at h))))
  all_goals first | (cases h; rfl) | (cases h0; done) | (cases h; done) | skip
theorem run_drawn {α : Type} {P : Program} : ∀ (s : Sem α) {w w' : World} {v : α}, s.run P w = .ok v w' → w.drawn ≤ w'.drawn := by
  intro s
  induction s with
  | pure a => intro w w' v h; cases h; exact Nat.le_refl _
  | load m a k ih =>
    intro w w' v h
    simp only [Sem.run] at h
    split at h
    · exact ih _ h
    · split at h
      · exact ih _ h
      · cases h
  | store m a u k ih =>
    intro w w' v h
    have key : (match w.cell? a with
        | some _ => if w.frozen? a then .halt (.unsupported (.unsafePointer "a write to bytes that a string shares")) w else k.run P (w.setCell a u)
        | none => match w.farStore P a u (m == .atomic) with
          | .ok (w, _) => k.run P w
          | .error h => .halt h w) = Result.ok v w' → w.drawn ≤ w'.drawn := fun h => by
      split at h
      · split at h
        · cases h
        · exact ih (w := w.setCell a u) h
      · split at h
        · rename_i w1 _ hf
          have : w1.drawn = w.drawn := by
            unfold World.farStore at hf
            split at hf
            · split at hf
              · rename_i hv; cases hf; exact viewStore_drawn hv
              · cases hf
            · cases hf
          rw [← this]; exact ih h
        · cases h
    cases u <;> first | exact key h | cases h
  | new o k ih => intro w w' v h; exact ih _ (w := { w with heap := w.heap.push o }) h
  | shape r k ih => intro w w' v h; exact ih _ (w := w) h
  | freeze a n k ih =>
    intro w w' v h
    have : (w.freeze a n).drawn = w.drawn := by unfold World.freeze; split <;> rfl
    rw [← this]; exact ih (w := w.freeze a n) h
  | frozen a k ih => intro w w' v h; exact ih _ (w := w) h
  | getObj r k ih =>
    intro w w' v h
    simp only [Sem.run] at h
    split at h
    · cases h
    · exact ih _ h
    · cases h
  | setObj r o k ih =>
    intro w w' v h
    simp only [Sem.run] at h
    split at h
    · cases h
    · exact ih (w := { w with heap := w.heap.setIfInBounds r o }) h
    · cases h
  | choose q k ih =>
    intro w w' v h
    simp only [Sem.run] at h
    split at h
    · exact ih _ h
    · exact Nat.le_trans (Nat.le_succ _) (ih _ (w := { w with drawn := w.drawn + 1 }) h)
  | sys c k ih =>
    intro w w' v h
    refine Nat.le_trans ?_ (ih _ (w := (w.sys c).2) h)
    have ha := ask_drawn (Kernel.perform c w.os) w
    unfold World.sys
    generalize w.ask (Kernel.perform c w.os) = q at ha
    obtain ⟨⟨r, os⟩, w1⟩ := q
    cases r <;> first | exact Nat.le_refl _ | exact ha
  | program k ih => intro w w' v h; exact ih _ (w := w) h
  | mark m k ih => intro w w' v h; exact ih (w := w) h
  | halt h0 => intro w w' v h; cases h
end Go.AM

/- strings.Builder at this seat's program. -/
namespace Go.Proofs
open Go.Shelf Go.RowKit
set_option maxHeartbeats 2000000
set_option maxRecDepth 100000
theorem Bk.sizeB : (Tryz.prog.info? 141).map (·.size) = some 2 := by kernel_rfl
theorem Bk.copyCheck_used (b : Nat) (w : World) (h0 : w.cell? ⟨b, 0, none⟩ = some (.pointer (some ⟨b, 0, none⟩))) :
    Calls Tryz.prog 134 #[.pointer (some ⟨b, 0, none⟩)] w fun e w' => e = .returned (.tuple #[]) ∧ w' = w := by
  obtain ⟨j, hj, _⟩ := Option.map_eq_some_iff.1 Bk.sizeB
  have hu : Tryz.prog.underlying 138 = some (.pointer 141) := by kernel_rfl
  go_enter Tryz.func134, Tryz.ntmps134
  go_wp2
  rw [Lib.run_neq_ptr_same w _ hu hj]
  go_wp2
  go_end0
  exact ⟨rfl, rfl⟩
theorem Bk.copyCheck_fresh (b : Nat) (w : World) (h0 : w.cell? ⟨b, 0, none⟩ = some (.pointer none)) (hsh : w.shape? b = some (141, 2)) (hfz : w.frozen? ⟨b, 0, none⟩ = false) :
    Calls Tryz.prog 134 #[.pointer (some ⟨b, 0, none⟩)] w fun e w' => e = .returned (.tuple #[]) ∧ w' = w.setCell ⟨b, 0, none⟩ (.pointer (some ⟨b, 0, none⟩)) := by
  obtain ⟨j, hj, hjs⟩ := Option.map_eq_some_iff.1 Bk.sizeB
  have hu : Tryz.prog.underlying 138 = some (.pointer 141) := by kernel_rfl
  have hv : Tryz.prog.underlying 155 = some .unsafePointer := by kernel_rfl
  have hl : liesAt Tryz.prog Tryz.prog.depth 141 (2 / Tryz.prog.cellsOf 141) 0 141 1 = true := by kernel_rfl
  go_enter Tryz.func134, Tryz.ntmps134
  go_wp2
  rw [Lib.run_to_unsafe w ⟨b, 0, none⟩ hu hv hj (by rw [hjs]; decide) hsh (Nat.zero_lt_succ 1)]
  simp only [Result.andThen]
  rw [Oper.upon_value]
  go_wp2
  rw [run_callFunc_extern Tryz.func140 (by kernel_rfl) (by kernel_rfl) (by kernel_rfl) (e := Extern.AbiNoEscape.same) (by kernel_rfl)]
  rw [Lib.run_noEscape]
  simp only [Result.andThen]
  rw [Oper.upon_value]
  go_wp2
  rw [Lib.run_from_unsafe w ⟨b, 0, none⟩ hv hu hj hsh hl]
  simp only [Result.andThen]
  rw [Oper.upon_value]
  go_wp2
  go_end0
  exact ⟨rfl, rfl⟩
theorem Bk.copyCheck (B b : Nat) (bs : List Value) (w : World) (h : Lib.IsBuilder 141 5 B b bs w) :
    Calls Tryz.prog 134 #[.pointer (some ⟨b, 0, none⟩)] w fun e w' => e = .returned (.tuple #[]) ∧ (Lib.BuilderAt 141 5 B b (.pointer (some ⟨b, 0, none⟩)) bs w' ∧ Below B w w') ∧ w.drawn ≤ w'.drawn := by
  rcases h with h | h
  · refine (Bk.copyCheck_fresh b w h.cell0 h.shape h.frozen0).mono ?_
    rintro e w' ⟨rfl, rfl⟩
    exact ⟨rfl, ⟨h.used _, (Below.refl B w).setCell (p := ⟨b, 0, none⟩) h.1 _⟩, Nat.le_refl _⟩
  · refine (Bk.copyCheck_used b w h.cell0).mono ?_
    rintro e w' ⟨rfl, rfl⟩
    exact ⟨rfl, ⟨h, Below.refl B _⟩, Nat.le_refl _⟩
/-- An append of a string's bytes, and what it draws. -/
theorem Bk.wp_append_str {P : Program} (w : World) {ops : Array Oper} {rest : List Oper} {o : Oper} {a : Act} {Q : Exit → Act → World → Prop} (hgd : o.guard = none) (sl x : Operand) (t u : TypeId)
    (ho : o.op = .call { callee := .builtin .append, args := #[sl, x], argTypes := #[t, u] })
    (base : Nat) (e : TypeId) (i : TypeInfo) (ht : P.underlying t = some (.slice e)) (hu : P.underlying u = some .string) (hi : P.info? e = some i) (hz : i.zero = some (.int .u8 0))
    (hsize : i.size = 1) (hby : i.bytes = 1)
    (v : Value) (n : Nat) (xs : List Value) (hs : a.eval sl = v) (hown : w.ownsRow base e 1 v n xs) (s : ByteArray) (hx : a.eval x = .string s)
    (h63 : n + s.size ≤ maxLen) (hbytes : n + s.size ≤ 140737488355328) (hbase : base ≤ w.heap.size)
    (h : ∀ v' w', w'.ownsRow base e 1 v' (n + s.size) (xs ++ Lib.strCells s) → w.grownBy w' v.ownBlock → w.drawn ≤ w'.drawn → wpList P ops Q rest (a.put o.dst v') w') : wpList P ops Q (o :: rest) a w := by
  refine wpList_plain hgd fun K hK => ?_
  obtain ⟨v', w', hr, h2, h3, h4⟩ := Lib.run_append_own_string (P := P) w base t u o.type e i ht hu hi hz hsize hby v n xs hown s h63 hbytes hbase
  unfold Oper.wp execOp
  simp only [ho, resolve, invoke, builtin, Sem.run_bind, Sem.run_pure, Result.andThen_ok, List.map_toArray, List.map_cons, List.map_nil, hs, hx, hr]
  exact hK _ _ (h v' w' h2 h3 (AM.run_drawn _ hr))
theorem Bk.writeString (B b : Nat) (bs : List Value) (s : ByteArray) (w : World) (h : Lib.IsBuilder 141 5 B b bs w) (hlen : bs.length + s.size ≤ 140737488355328) (hBw : B ≤ w.heap.size) :
    Calls Tryz.prog 125 #[.pointer (some ⟨b, 0, none⟩), .string s] w fun e w' => e = .returned (.tuple #[.int .i64 s.size, .nilIface]) ∧ (Lib.BuilderAt 141 5 B b (.pointer (some ⟨b, 0, none⟩)) (bs ++ Lib.strCells s) w' ∧ Below B w w') ∧ w.drawn ≤ w'.drawn := by
  have hib : (Tryz.prog.info? 5).map (fun i => (i.zero, i.size, i.bytes)) = some (some (.int .u8 0), 1, 1) := by kernel_rfl
  obtain ⟨i0, hi, hz0, hz1, hz2⟩ := info_parts hib
  have e240 : ∀ args w, (callFunc 134 args).run Tryz.prog w = .ok (.enter 134 args) w := enters_of Tryz.func134 (by kernel_rfl) rfl
  go_enter Tryz.func125, Tryz.ntmps125
  go_wp2_with (go_at_call 134; refine (Bk.copyCheck B b bs _ h).mono ?_)
  rintro e w1 ⟨rfl, ⟨h1, hb1⟩, hd1⟩
  obtain ⟨hB, v, hbk, hown, hne⟩ := h1
  have c0 : w1.cell? ⟨b, 0, none⟩ = some (.pointer (some ⟨b, 0, none⟩)) := by rw [Lib.cell_of_heap hbk]; rfl
  have c1 : w1.cell? ⟨b, 1, none⟩ = some v := by rw [Lib.cell_of_heap hbk]; rfl
  go_wp2_with (at_builtin; refine Bk.wp_append_str _ rfl _ _ 139 9 rfl B 5 i0 (by kernel_rfl) (by kernel_rfl) hi hz0 hz1 hz2 _ _ _ rfl hown s rfl ?c3 ?c4 ?c5 ?_)
  case c3 => unfold maxLen; omega
  case c4 => omega
  case c5 => have := hb1.size; omega
  intro v' w2 hown' hgrow hd2
  have hlt : b < w1.heap.size := by
    rcases Nat.lt_or_ge b w1.heap.size with h' | h'
    · exact h'
    · simp [Array.getElem?_eq_none h'] at hbk
  have hb2 : w2.heap[b]? = some (.cells #[.pointer (some ⟨b, 0, none⟩), v] 141 (0, 0)) := by
    rw [hgrow.block b hlt (fun e => hne e.symm)]
    exact hbk
  have d0 : w2.cell? ⟨b, 0, none⟩ = some (.pointer (some ⟨b, 0, none⟩)) := by rw [Lib.cell_of_heap hb2]; rfl
  have d1 : w2.cell? ⟨b, 1, none⟩ = some v := by rw [Lib.cell_of_heap hb2]; rfl
  have f1 : w2.frozen? ⟨b, 1, none⟩ = false := Lib.frozen_of_heap hb2 1
  obtain ⟨ao, n', cap, rfl⟩ : ∃ ao n' cap, v' = .slice ao n' cap := by
    rcases hown'.2 with ⟨hv, _⟩ | ⟨g, cap, cur, hv, _⟩
    · exact ⟨_, _, _, hv⟩
    · exact ⟨_, _, _, hv⟩
  go_wp2
  go_ret2
  refine ⟨rfl, ⟨?_, ?_⟩, ?_⟩
  · exact Lib.BuilderAt.put (T := 141) (e := 5) hB hb2 (bs' := bs ++ Lib.strCells s) (by simpa [Lib.strCells_length] using hown') (by decide)
  · exact (hb1.grown hgrow (by have := hb1.size; omega) (fun k hk => (hown.lt k hk).1)).setCell (p := ⟨b, 1, none⟩) hB _
  · exact Nat.le_trans hd1 hd2
theorem Bk.string_some (B b : Nat) (l : List UInt8) (w : World) (h : Lib.IsBuilder 141 5 B b (Lib.byteCells l) w) (h0 : l ≠ []) :
    Calls Tryz.prog 127 #[.pointer (some ⟨b, 0, none⟩)] w fun e w' => e = .returned (.string ⟨l.toArray⟩) ∧ Below B w w' ∧ w.drawn ≤ w'.drawn := by
  obtain ⟨p, hB, v, hbk, hown, hne⟩ : ∃ p, Lib.BuilderAt 141 5 B b p (Lib.byteCells l) w := by
    rcases h with h | h
    · exact ⟨_, h⟩
    · exact ⟨_, h⟩
  have hl0 : l.length ≠ 0 := by simpa using h0
  rw [Lib.byteCells_length] at hown
  obtain ⟨g, cap, cur, rfl, hbg, hg, hnc, hcm, hcs, htake⟩ : ∃ g cap cur, v = .slice (some ⟨g, 0, none⟩) l.length cap ∧ B ≤ g ∧ w.heap[g]? = some (.cells cur 5 (0, 0)) ∧ l.length ≤ cap ∧ cap ≤ maxLen ∧ cur.size = cap * 1 ∧ cur.toList.take (l.length * 1) = Lib.byteCells l := by
    rcases hown.2 with ⟨_, hz⟩ | ⟨g, cap, cur, hv, r⟩
    · exact absurd hz hl0
    · exact ⟨g, cap, cur, hv, r⟩
  have c1 : w.drew.cell? ⟨b, 1, none⟩ = some (.slice (some ⟨g, 0, none⟩) l.length cap) := by
    have : w.drew.heap[b]? = some (.cells #[p, .slice (some ⟨g, 0, none⟩) l.length cap] 141 (0, 0)) := hbk
    rw [Lib.cell_of_heap this]; rfl
  have hSD : (Builtin.unsafeSliceData_ #[139] 151 #[.slice (some ⟨g, 0, none⟩) l.length cap]).run Tryz.prog w.drew = .ok (.pointer (some ⟨g, 0, none⟩)) w.drew :=
    Lib.run_unsafeSliceData_row _ _ _ _ _ _ (by omega)
  have hUS : (Builtin.unsafeString_ #[151, 3] 9 #[.pointer (some ⟨g, 0, none⟩), .int .i64 l.length]).run Tryz.prog w.drew = .ok (.string ⟨l.toArray⟩) (w.drew.freeze ⟨g, 0, none⟩ l.length) := by
    refine Lib.run_unsafeString_row w.drew 151 3 9 5 (by kernel_rfl) (by kernel_rfl) g cur.size (by have hg' : w.drew.heap[g]? = some (.cells cur 5 (0, 0)) := hg; simp [World.shape?, hg']) l h0 (by omega) (by unfold maxLen at hcm; omega) ?_
    intro j x hx
    have := hown.cells (g := g) rfl j (.int .u8 x.toNat) (by simp [Lib.byteCells, hx])
    exact this
  have hfd : (w.drew.freeze ⟨g, 0, none⟩ l.length).drawn = w.drawn + 1 := by unfold World.freeze; split <;> rfl
  have mixed : Tryz.prog.follows .mixedOrders = true := by kernel_rfl
  go_enter Tryz.func127, Tryz.ntmps127
  go_wp2
  go_region_o
  all_goals (go_wp2; go_ret; exact ⟨rfl, Lib.below_freeze (Below.drew (Below.refl B w)) (p := ⟨g, 0, none⟩) hbg _, by rw [hfd]; exact Nat.le_succ _⟩)
theorem Bk.string_nil (B b : Nat) (p : Value) (w : World) (hbk : w.heap[b]? = some (.cells #[p, .slice none 0 0] 141 (0, 0))) :
    Calls Tryz.prog 127 #[.pointer (some ⟨b, 0, none⟩)] w fun e w' => e = .returned (.string ⟨#[]⟩) ∧ Below B w w' ∧ w.drawn ≤ w'.drawn := by
  have hUS : ∀ (W : World) (q : Option Addr), (Builtin.unsafeString_ #[151, 3] 9 #[.pointer q, .int .i64 0]).run Tryz.prog W = .ok (.string .empty) W := fun W q => Lib.run_unsafeString_none W _ _ _ q
  have c1 : w.drew.cell? ⟨b, 1, none⟩ = some (.slice none 0 0) := by
    have : w.drew.heap[b]? = some (.cells #[p, .slice none 0 0] 141 (0, 0)) := hbk
    rw [Lib.cell_of_heap this]; rfl
  have hSD : (Builtin.unsafeSliceData_ #[139] 151 #[.slice none 0 0]).run Tryz.prog w.drew = .ok (.pointer none) w.drew := rfl
  have mixed : Tryz.prog.follows .mixedOrders = true := by kernel_rfl
  go_enter Tryz.func127, Tryz.ntmps127
  go_wp2
  go_region_o
  all_goals (go_wp2; go_ret; exact ⟨rfl, Below.drew (Below.refl B w), Nat.le_succ _⟩)
end Go.Proofs

/- The hexadecimal digits of a word. -/
namespace Go.Proofs
open Go.Shelf Go.RowKit
set_option maxHeartbeats 2000000
set_option maxRecDepth 100000
def Bk.hexc (d : Nat) : UInt8 := if d < 10 then UInt8.ofNat (48 + d) else UInt8.ofNat (87 + d)
theorem Bk.and15 (u : Nat) : bits BinOp.and IntKind.u64 (u : Int) 15 = ((u % 16 : Nat) : Int) := by
  have e1 : (BitVec.ofInt IntKind.u64.bits (u : Int)).toNat = u % 18446744073709551616 := by
    simp [BitVec.toNat_ofInt, IntKind.bits]
  have e2 : (BitVec.ofInt IntKind.u64.bits 15).toNat = 15 := rfl
  simp only [bits, BitVec.toNat_and, e1, e2]
  rw [show u % 18446744073709551616 &&& 15 = u % 18446744073709551616 % 16 from Nat.and_two_pow_sub_one_eq_mod _ 4]
  simp [IntKind.wrap, IntKind.signed, IntKind.bits]; omega
theorem Bk.dig (u : Nat) (h : u < (ByteArray.mk #[48, 49, 50, 51, 52, 53, 54, 55, 56, 57, 97, 98, 99, 100, 101, 102, 103, 104, 105, 106, 107, 108, 109, 110, 111, 112, 113, 114, 115, 116, 117, 118, 119, 120, 121, 122]).size) :
    (ByteArray.mk #[48, 49, 50, 51, 52, 53, 54, 55, 56, 57, 97, 98, 99, 100, 101, 102, 103, 104, 105, 106, 107, 108, 109, 110, 111, 112, 113, 114, 115, 116, 117, 118, 119, 120, 121, 122])[u] = Bk.hexc u := by
  have key : ∀ u : Fin 36, (ByteArray.mk #[48, 49, 50, 51, 52, 53, 54, 55, 56, 57, 97, 98, 99, 100, 101, 102, 103, 104, 105, 106, 107, 108, 109, 110, 111, 112, 113, 114, 115, 116, 117, 118, 119, 120, 121, 122])[u.1]'(u.2) = Bk.hexc u.1 := by decide
  exact key ⟨u, h⟩
def Bk.hx (x j : Nat) : Value := .int .u8 ((Bk.hexc (x / 16 ^ j % 16)).toNat : Int)
def Bk.FmtAt (x b k : Nat) (w0 W : World) : Prop :=
  (∃ cur : Array Value, W.heap[b]? = some (.cells cur 174 (0, 0)) ∧ cur.size = 65 ∧ ∀ j, j < k → cur[64 - j]? = some (Bk.hx x j)) ∧ Below w0.heap.size w0 W ∧ w0.drawn ≤ W.drawn
theorem Bk.FmtAt.next {x b k m : Nat} {w0 W : World} (h : Bk.FmtAt x b k w0 W) (hb : w0.heap.size ≤ b) (hm : m + k = 64) : Bk.FmtAt x b (k + 1) w0 (W.setCell ⟨b, m, none⟩ (Bk.hx x k)) := by
  obtain ⟨⟨cur, hc, hcs, hcj⟩, hb2, hd2⟩ := h
  refine ⟨⟨cur.setIfInBounds m (Bk.hx x k), ?_, by simpa using hcs, fun j hj => ?_⟩, hb2.setCell (p := ⟨b, m, none⟩) hb _, hd2⟩
  · simp [World.setCell, Array.getElem?_modify, hc]
  · by_cases e : j = k
    · subst e
      rw [show 64 - j = m by omega, Array.getElem?_setIfInBounds_self_of_lt (by omega)]
    · rw [Array.getElem?_setIfInBounds_ne (by omega)]
      exact hcj j (by omega)
/-- The digits of a word, as text. -/
def Bk.hexL (x k : Nat) : List UInt8 := (List.range (k + 1)).map fun j => Bk.hexc (x / 16 ^ (k - j) % 16)
theorem Bk.slice138 (b m : Nat) (hm : m < 65) (W : World) : (Instr.sliceAt 174 (.pointer (some ⟨b, 0, none⟩)) (some (.int .i64 (m : Int))) none none).run Tryz.prog W = .ok (.slice (some ⟨b, m, none⟩) (65 - m) (65 - m)) W := by
  have hl : Tryz.prog.arrayLen 174 = 65 := by kernel_rfl
  have he : Tryz.prog.elem 174 = 5 := by kernel_rfl
  have hu : Tryz.prog.underlying 174 = some (.array 65 5) := by kernel_rfl
  have hs := Tryz.sizeOf5
  rw [run_sliceAt_array_l (P := Tryz.prog) W 174 ⟨b, 0, none⟩ (by rw [hl, he]; exact hu) .i64 (m : Int) (by omega) (by rw [hl]; omega)]
  simp only [hl, he, hs, Result.andThen, slicedAt, Int.toNat_natCast]
  rw [show (if 65 = m then (⟨b, 0, none⟩ : Addr) else (⟨b, 0, none⟩ : Addr).add (m * 1)) = ⟨b, m, none⟩ from by rw [if_neg (by omega)]; cases m <;> simp [Addr.add]]
theorem Bk.conv138 {x b k m : Nat} {w0 W : World} (h : Bk.FmtAt x b (k + 1) w0 W) (hm : m + k = 64) : (convert 139 9 (.slice (some ⟨b, m, none⟩) (65 - m) (65 - m))).run Tryz.prog W = .ok (.string ⟨(Bk.hexL x k).toArray⟩) W := by
  obtain ⟨⟨cur, hc, hcs, hcj⟩, hb2, hd2⟩ := h
  have hu : Tryz.prog.underlying 139 = some (.slice 5) := by kernel_rfl
  have h5 : Tryz.prog.underlying 5 = some (.int .u8) := by kernel_rfl
  have h9 : Tryz.prog.underlying 9 = some .string := by kernel_rfl
  have := run_convert_bytes_arg (P := Tryz.prog) W 139 5 hu h5 b m (65 - m) (65 - m) ((Bk.hexL x k).map fun c => (c.toNat : Int)) (by simp [Bk.hexL]; omega) (fun i hi => by
    have hg := hcj (k - i) (by omega)
    rw [show 64 - (k - i) = m + i by omega] at hg
    simp only [World.cell?, hc]
    simp only [Bk.hexL, List.map_map, List.getD_eq_getElem?_getD, List.getElem?_map, List.getElem?_range (show i < k + 1 by omega)]
    simpa [Bk.hx] using hg) 9 h9
  rw [this]
  simp [strOfNums, List.map_map, Function.comp_def]
theorem Bk.formatBits (x : Nat) (hx : x < 18446744073709551616) (w : World)
    (htz : ∀ W, Below w.heap.size w W → Calls Tryz.prog 158 #[.int .u64 16] W fun e W' => e = .returned (.int .i64 4) ∧ Below W.heap.size W W' ∧ W.drawn ≤ W'.drawn) :
    Calls Tryz.prog 144 #[.slice none 0 0, .int .u64 x, .int .i64 16, .bool false, .bool false] w fun e w' => (∃ k, x / 16 ^ k < 16 ∧ (k = 0 ∨ 16 ≤ x / 16 ^ (k - 1)) ∧ e = .returned (.tuple #[.slice none 0 0, .string ⟨(Bk.hexL x k).toArray⟩])) ∧ Below w.heap.size w w' ∧ w.drawn ≤ w'.drawn := by
  have e137 : ∀ args w, (callFunc 158 args).run Tryz.prog w = .ok (.enter 158 args) w := enters_of Tryz.func158 (by kernel_rfl) rfl
  go_enter Tryz.func144, Tryz.ntmps144
  go_wp2_with (first
    | (go_at_call 158; refine (htz _ (by first | exact (Below.refl _ w).alloc (Nat.le_refl _) _)).mono ?_; rintro e W1 ⟨rfl, hb1, hd1⟩)
    | go_in)
  have h0 : Bk.FmtAt x w.heap.size 0 w W1 := by
    refine ⟨⟨Tryz.zeroCells174, (hb1.block _ (by simp)).trans (heap_alloc_new w _), by kernel_rfl, fun j hj => absurd hj (by omega)⟩, ?_, hd1⟩
    exact ((Below.refl _ w).alloc (Nat.le_refl _) _).trans (hb1.mono (by simp))
  clear hb1 hd1
  obtain ⟨b, hbe⟩ : ∃ b, b = w.heap.size := ⟨_, rfl⟩
  rw [← hbe] at h0 ⊢
  have HBE : Hid (w.heap.size ≤ b) := Nat.le_of_eq hbe.symm
  clear htz hbe
  go_loopw [1, 13] (fun vu vi wr => ∃ k m u : Nat, m + k = 64 ∧ k ≤ 15 ∧ Hid (u = x / 16 ^ k ∧ (k = 0 ∨ 16 ≤ x / 16 ^ (k - 1))) ∧ vu = .int .u64 (u : Int) ∧ vi = .int .i64 ((m : Int) + 1) ∧ Hid (Bk.FmtAt x b k w wr)) (fun _ vi _ => (RowKit.intOf vi).toNat)
  case atStart => exact ⟨0, 64, x, by omega, by omega, (by simp : x = x / 16 ^ 0 ∧ _), rfl, rfl, h0⟩
  case round =>
    obtain ⟨k, m, u, hm, hk, HU, rfl, rfl, HF⟩ := hrel
    have hbit := Bk.and15 u
    obtain ⟨d, hde⟩ : ∃ d, d = u % 16 := ⟨_, rfl⟩
    have hlt : d < 16 := by rw [hde]; exact Nat.mod_lt _ (by omega)
    rw [← hde] at hbit
    have HD : Hid (d = u % 16) := hde
    clear hde
    obtain ⟨old, c1⟩ : ∃ v, wr.cell? ⟨b, m, none⟩ = some v := by
      obtain ⟨⟨cur, hc, hcs, _⟩, _⟩ := HF.out
      exact ⟨cur[m]'(by omega), by simp [World.cell?, hc, hcs, show m < 65 by omega]⟩
    have f1 : wr.frozen? ⟨b, m, none⟩ = false := by
      obtain ⟨⟨cur, hc, hcs, _⟩, _⟩ := HF.out
      simp [World.frozen?, hc]
    have hdg : ∀ n h, Value.int .u8 ((((ByteArray.mk #[48, 49, 50, 51, 52, 53, 54, 55, 56, 57, 97, 98, 99, 100, 101, 102, 103, 104, 105, 106, 107, 108, 109, 110, 111, 112, 113, 114, 115, 116, 117, 118, 119, 120, 121, 122])[n]'h).toNat : Nat) : Int) = .int .u8 ((Bk.hexc n).toNat : Int) := fun n h => by rw [Bk.dig]
    have hfin : u < 16 → Hid (Bk.FmtAt x b (k + 1) w (wr.setCell ⟨b, m, none⟩ (.int .u8 ((Bk.hexc u).toNat : Int)))) := fun hlt => by
      have hu := HU.out.1
      have := HF.out.next HBE.out hm
      unfold Bk.hx at this
      rw [← hu, Nat.mod_eq_of_lt hlt] at this
      exact this
    have hgo : 16 ≤ u → (x / 16 ^ (k + 1) = u / 16) ∧ k + 1 ≤ 15 ∧ Bk.FmtAt x b (k + 1) w (wr.setCell ⟨b, m, none⟩ (.int .u8 ((Bk.hexc d).toNat : Int))) := fun hge => by
      have hu := HU.out.1
      have := HF.out.next HBE.out hm
      unfold Bk.hx at this
      rw [← hu, ← HD.out] at this
      refine ⟨by rw [Nat.pow_succ, ← Nat.div_div_eq_div_mul, ← hu], ?_, this⟩
      by_cases h15 : k = 15
      · exfalso
        subst h15
        have : x / 16 ^ 15 < 16 := Nat.div_lt_of_lt_mul (by simpa using hx)
        omega
      · omega
    have HG : Hid (16 ≤ u → (x / 16 ^ (k + 1) = u / 16) ∧ k + 1 ≤ 15 ∧ Bk.FmtAt x b (k + 1) w (wr.setCell ⟨b, m, none⟩ (.int .u8 ((Bk.hexc d).toNat : Int)))) := hgo
    have HN : Hid (u < 16 → Hid (Bk.FmtAt x b (k + 1) w (wr.setCell ⟨b, m, none⟩ (.int .u8 ((Bk.hexc u).toNat : Int))))) := hfin
    clear hgo hfin
    have hm65 : m < 65 := by omega
    have HS : Hid (∀ W, (Instr.sliceAt 174 (.pointer (some ⟨b, 0, none⟩)) (some (.int .i64 (m : Int))) none none).run Tryz.prog W = .ok (.slice (some ⟨b, m, none⟩) (65 - m) (65 - m)) W) := Bk.slice138 b m hm65
    go_wp2
    case roundEnd =>
      rename_i hge _
      have hge : 16 ≤ u := by omega
      obtain ⟨g1, g2, g3⟩ := HG.out hge
      have hu := HU.out.1
      refine ⟨⟨k + 1, m - 1, u / 16, by omega, g2, ⟨g1.symm, .inr (by rw [Nat.add_sub_cancel, ← hu]; exact hge)⟩, by simp, by congr 1; omega, ?_⟩, by simp [intOf]⟩
      exact g3
    · rename_i hlt2 _
      have hlt2 : u < 16 := by omega
      have hF2 := HN.out hlt2
      generalize hW : World.setCell wr ⟨b, m, none⟩ _ = W2
      have hF3 : Bk.FmtAt x b (k + 1) w W2 := by rw [← hW]; exact hF2.out
      clear hF2 hW hdg HG HN
      have hcv := Bk.conv138 hF3 hm
      have HF3 : Hid (Bk.FmtAt x b (k + 1) w W2) := hF3
      rw [HS.out]
      simp only [Result.andThen]
      rw [Oper.upon_value]
      clear hF3
      go_wp2
      go_ret2
      exact ⟨⟨k, by rw [← HU.out.1]; exact hlt2, HU.out.2, rfl⟩, HF3.out.2.1, HF3.out.2.2⟩
end Go.Proofs

/- The text of a set. -/
namespace Go.Proofs
open Go.Shelf Go.RowKit
set_option maxHeartbeats 2000000
set_option maxRecDepth 100000
def Bk.hexK : Nat → Nat → Nat
  | 0, _ => 0
  | n + 1, x => if x < 16 then 0 else Bk.hexK n (x / 16) + 1
theorem Bk.hexK_eq : ∀ (k n x : Nat), k < n → x / 16 ^ k < 16 → (k = 0 ∨ 16 ≤ x / 16 ^ (k - 1)) → Bk.hexK n x = k
  | 0, n, x, hn, h1, _ => by
    obtain ⟨n, rfl⟩ : ∃ m, n = m + 1 := ⟨n - 1, by omega⟩
    unfold Bk.hexK
    rw [if_pos (by simpa using h1)]
  | k + 1, n, x, hn, h1, h2 => by
    obtain ⟨n, rfl⟩ : ∃ m, n = m + 1 := ⟨n - 1, by omega⟩
    have h2 : 16 ≤ x / 16 ^ k := by rcases h2 with h | h <;> first | omega | simpa using h
    have hx : ¬ x < 16 := fun h => by
      have := Nat.div_le_self x (16 ^ k)
      omega
    unfold Bk.hexK
    rw [if_neg hx]
    have e1 : ∀ j, x / 16 / 16 ^ j = x / 16 ^ (j + 1) := fun j => by rw [Nat.div_div_eq_div_mul, Nat.pow_succ, Nat.mul_comm]
    have := Bk.hexK_eq k n (x / 16) (by omega) (by rw [e1]; exact h1) (by
      rcases k with _ | k
      · exact .inl rfl
      · right; rw [Nat.add_sub_cancel, e1]; exact h2)
    rw [this]
def Bk.hexT (x : Nat) : List UInt8 := Bk.hexL x (Bk.hexK 17 x)
def Bk.textL (ws : List Nat) : List UInt8 := (ws.map fun x => Bk.hexT x ++ [46]).flatten
theorem Bk.hexT_len (x : Nat) : (Bk.hexT x).length ≤ 18 := by
  have : ∀ n x, Bk.hexK n x ≤ n := by
    intro n
    induction n with
    | zero => intro x; simp [Bk.hexK]
    | succ n ih =>
      intro x
      unfold Bk.hexK
      split
      · omega
      · have := ih (x / 16)
        omega
  have := this 17 x
  simp [Bk.hexT, Bk.hexL]; omega
abbrev Bk.Tz (w : World) : Prop := ∀ W, Below w.heap.size w W → Calls Tryz.prog 158 #[.int .u64 16] W fun e W' => e = .returned (.int .i64 4) ∧ Below W.heap.size W W' ∧ W.drawn ≤ W'.drawn
theorem Bk.Tz.later {w w' : World} (h : Bk.Tz w) (hb : Below w.heap.size w w') : Bk.Tz w' := fun W hW => h W (hb.trans (hW.mono hb.size))
theorem Bk.fmtIn (x : Nat) (hx : x < 18446744073709551616) (w : World) (htz : Bk.Tz w) :
    Calls Tryz.prog 135 #[.int .u64 x, .int .i64 16] w fun e w' => e = .returned (.string ⟨(Bk.hexT x).toArray⟩) ∧ Below w.heap.size w w' ∧ w.drawn ≤ w'.drawn := by
  have hF := Bk.formatBits x hx w htz
  go_enter Tryz.func135, Tryz.ntmps135
  go_wp2_with (go_at_call 144; refine hF.mono ?_; rintro e w' ⟨⟨k, h1, h2, rfl⟩, hb, hd⟩)
  have hk : Bk.hexK 17 x = k := by
    refine Bk.hexK_eq k 17 x ?_ h1 h2
    by_cases h : k < 17
    · exact h
    · exfalso
      rcases h2 with h2 | h2
      · omega
      · have : x / 16 ^ (k - 1) ≤ x / 16 ^ 16 := Nat.div_le_div_left (Nat.pow_le_pow_right (by decide) (by omega)) (by decide)
        have h3 : x / 16 ^ 16 = 0 := Nat.div_eq_of_lt (by simpa using hx)
        omega
  have he : Bk.hexL x k = Bk.hexT x := by unfold Bk.hexT; rw [hk]
  rw [he]
  clear he hk h1 h2
  go_wp2
  go_ret
  exact ⟨rfl, hb, hd⟩
theorem Bk.fmt (x : Nat) (hx : x < 18446744073709551616) (w : World) (htz : Bk.Tz w) :
    Calls Tryz.prog 126 #[.int .u64 x, .int .i64 16] w fun e w' => e = .returned (.string ⟨(Bk.hexT x).toArray⟩) ∧ Below w.heap.size w w' ∧ w.drawn ≤ w'.drawn := by
  have hF := Bk.fmtIn x hx w htz
  go_enter Tryz.func126, Tryz.ntmps126
  go_wp2_with (go_at_call 135; refine hF.mono ?_; rintro e w' ⟨rfl, hb, hd⟩)
  go_ret
  exact ⟨rfl, hb, hd⟩
theorem Bk.textL_take (ws : List Nat) (k x : Nat) (hx : ws[k]? = some x) : Bk.textL (ws.take (k + 1)) = Bk.textL (ws.take k) ++ (Bk.hexT x ++ [46]) := by
  unfold Bk.textL
  rw [List.take_add_one, hx]
  simp
theorem Bk.textL_len : ∀ ws : List Nat, (Bk.textL ws).length ≤ 19 * ws.length
  | [] => by simp [Bk.textL]
  | x :: ws => by
    have h1 := Bk.hexT_len x
    have h2 := Bk.textL_len ws
    unfold Bk.textL at *
    simp only [List.map_cons, List.flatten_cons, List.length_append, List.length_cons, List.length_nil] at *
    omega
theorem Bk.grown_of_below {w w' : World} (h : Below w.heap.size w w') : w.grownBy w' none := ⟨h.os, h.tape, h.output, h.size, fun k hk _ => h.block k hk⟩
theorem Bk.isBuilder_later {T e B b : Nat} {bs : List Value} {w w' : World} (h : Lib.IsBuilder T e B b bs w) (hb : Below w.heap.size w w') : Lib.IsBuilder T e B b bs w' := by
  have key : ∀ p, Lib.BuilderAt T e B b p bs w → Lib.BuilderAt T e B b p bs w' := fun p ⟨h1, v, h2, h3, h4⟩ =>
    ⟨h1, v, (hb.block b (Array.getElem?_eq_some_iff.1 h2).1).trans h2, h3.kept (Bk.grown_of_below hb) (by
      rcases hv : v.ownBlock with _ | q
      · exact .inl rfl
      · exact .inr (by simp)), h4⟩
  exact h.imp (key _) (key _)
/-- Between two rounds. -/
def Bk.TxtAt (ws : List Nat) (w0 : World) (bb k : Nat) (W : World) : Prop :=
  (k = 0 → W.heap[bb]? = some (.cells #[.pointer none, .slice none 0 0] 141 (0, 0))) ∧ Lib.IsBuilder 141 5 w0.heap.size bb (Lib.byteCells (Bk.textL (ws.take k))) W ∧ Below w0.heap.size w0 W ∧ w0.drawn ≤ W.drawn
theorem Bk.text (n : Int) (ws : List Nat) (hw : ∀ x ∈ ws, x < 18446744073709551616) (hl : ws.length ≤ 1000000) (a : Option Addr) (cap : Nat) (w : World) (htz : Bk.Tz w)
    (ha : ws = [] ∨ ∃ b base, a = some ⟨b, base, none⟩ ∧ b < w.heap.size ∧ ∀ (i x : Nat), ws[i]? = some x → w.cell? ⟨b, base + i, none⟩ = some (.int .u64 (x : Int))) :
    Calls Tryz.prog 107 #[.agg #[.int .i64 n, .slice a ws.length cap]] w fun e w' => e = .returned (.string ⟨(Bk.textL ws).toArray⟩) ∧ Below w.heap.size w w' ∧ w.drawn ≤ w'.drawn := by
  have HA : Hid (ws = [] ∨ ∃ b base, a = some ⟨b, base, none⟩ ∧ b < w.heap.size ∧ ∀ (i x : Nat), ws[i]? = some x → w.cell? ⟨b, base + i, none⟩ = some (.int .u64 (x : Int))) := ha
  have HT : Hid (Bk.Tz w) := htz
  have HW : Hid (∀ x ∈ ws, x < 18446744073709551616) := hw
  clear ha htz hw
  obtain ⟨N, hN⟩ : ∃ N, N = ws.length := ⟨_, rfl⟩
  have HN : Hid (N = ws.length) := hN
  rw [← hN] at hl ⊢
  clear hN
  go_enter Tryz.func107, Tryz.ntmps107
  go_wp2_with (first | (go_at_call 126; fail) | (go_at_call 125; fail) | (go_at_call 127; fail) | go_in)
  have h0 : Bk.TxtAt ws w (w.heap.size + 1) 0 ((w.alloc (.cells #[.int .i64 n, .slice a N cap] 41)).alloc (.cells #[.pointer none, .slice none 0 0] 141)) := by
    have hb : ((w.alloc (.cells #[.int .i64 n, .slice a N cap] 41)).alloc (.cells #[.pointer none, .slice none 0 0] 141)).heap[w.heap.size + 1]? = some (.cells #[.pointer none, .slice none 0 0] 141 (0, 0)) := by
      have := heap_alloc_new (w.alloc (.cells #[.int .i64 n, .slice a N cap] 41)) (.cells #[.pointer none, .slice none 0 0] 141)
      simpa using this
    refine ⟨fun _ => hb, .inl ⟨Nat.le_succ _, _, hb, ?_, by simp [Value.ownBlock]⟩, ((Below.refl _ w).alloc (Nat.le_refl _) _).alloc (by simp) _, Nat.le_refl _⟩
    exact ⟨by simp [Bk.textL, Lib.byteCells], .inl ⟨rfl, by simp [Bk.textL, Lib.byteCells]⟩⟩
  have H0 : Hid (Bk.TxtAt ws w (w.heap.size + 1) 0 ((w.alloc (.cells #[.int .i64 n, .slice a N cap] 41)).alloc (.cells #[.pointer none, .slice none 0 0] 141))) := h0
  clear h0
  go_loopw [9] (fun vi wr => ∃ k : Nat, k ≤ N ∧ vi = .int .i64 (k : Int) ∧ Hid (Bk.TxtAt ws w (w.heap.size + 1) k wr)) (fun vi _ => N - (RowKit.intOf vi).toNat)
  case atStart => exact ⟨0, by omega, rfl, H0⟩
  case round =>
    obtain ⟨k, hk, rfl, HK⟩ := hrel
    have e103 : ∀ args w, (callFunc 126 args).run Tryz.prog w = .ok (.enter 126 args) w := enters_of Tryz.func126 (by kernel_rfl) rfl
    have e102 : ∀ args w, (callFunc 125 args).run Tryz.prog w = .ok (.enter 125 args) w := enters_of Tryz.func125 (by kernel_rfl) rfl
    have e104 : ∀ args w, (callFunc 127 args).run Tryz.prog w = .ok (.enter 127 args) w := enters_of Tryz.func127 (by kernel_rfl) rfl
    by_cases hkn : k < N
    · obtain ⟨x, hx⟩ : ∃ x, ws[k]? = some x := ⟨_, List.getElem?_eq_getElem (by rw [← HN.out]; exact hkn)⟩
      have hx64 : x < 18446744073709551616 := HW.out x (List.mem_of_getElem? hx)
      obtain ⟨b, base, rfl, hbl, hcell⟩ : ∃ b base, a = some ⟨b, base, none⟩ ∧ b < w.heap.size ∧ ∀ (i x : Nat), ws[i]? = some x → w.cell? ⟨b, base + i, none⟩ = some (.int .u64 (x : Int)) := by
        rcases HA.out with h | h
        · exfalso; have := HN.out; rw [h] at this; simp at this; omega
        · exact h
      have hc0 : wr.cell? ⟨b, base + k, none⟩ = some (.int .u64 (x : Int)) := (HK.out.2.2.1.cell (p := ⟨b, base + k, none⟩) hbl).trans (hcell k x hx)
      clear hcell
      have HX : Hid (ws[k]? = some x) := hx
      clear hx
      have hnum : (k : Int) < (N : Int) := by omega
      have hlen := Bk.hexT_len x
      have htot := Bk.textL_len (ws.take k)
      rw [List.length_take] at htot
      have hb0 := HK.out.2.1
      have hsz0 := HK.out.2.2.1.size
      go_wp2_with (first
        | (go_at_call 126; refine (Bk.fmt x hx64 wr (HT.out.later HK.out.2.2.1)).mono ?_; rintro e W1 ⟨rfl, hb1, hd1⟩)
        | (go_at_call 125; refine (Bk.writeString w.heap.size (w.heap.size + 1) _ _ _ (Bk.isBuilder_later hb0 hb1) (by
              rw [Lib.byteCells_length]
              simp only [ByteArray.size, List.size_toArray, Array.size_append, ByteArray.data_append, List.length_append, List.length_cons, List.length_nil]
              omega) (by have := hb1.size; omega)).mono ?_; rintro e W2 ⟨rfl, ⟨hB2, hb2⟩, hd2⟩)
        | go_in)
      refine ⟨⟨k + 1, by omega, by simp, fun h => absurd h (by omega), .inr ?_, HK.out.2.2.1.trans ((hb1.mono hsz0).trans hb2), Nat.le_trans HK.out.2.2.2 (Nat.le_trans hd1 hd2)⟩, by simp [intOf]; omega⟩
      have e : Lib.strCells ({ data := (Bk.hexT x).toArray } ++ { data := #[46] }) = Lib.byteCells (Bk.hexT x ++ [46]) := by simp [Lib.strCells, Lib.byteCells, ByteArray.data_append]
      rw [e] at hB2
      rw [Bk.textL_take ws k x HX.out]
      simpa [Lib.byteCells] using hB2
    · have hnum : ¬ (k : Int) < (N : Int) := by omega
      have hkN : k = N := by omega
      subst hkN
      by_cases hne : Bk.textL ws = []
      · have hk0 : k = 0 := by
          rcases Nat.eq_zero_or_pos k with h | h
          · exact h
          · exfalso
            cases hws : ws with
            | nil => have := HN.out; rw [hws] at this; simp at this; omega
            | cons y ys => rw [hws] at hne; simp [Bk.textL] at hne
        have hbk := HK.out.1 hk0
        clear hk0
        go_wp2_with (first
          | (go_at_call 127; refine (Bk.string_nil w.heap.size _ _ _ hbk).mono ?_; rintro e W2 ⟨rfl, hb2, hd2⟩)
          | go_in)
        go_ret
        exact ⟨by rw [hne]; rfl, HK.out.2.2.1.trans hb2, Nat.le_trans HK.out.2.2.2 hd2⟩
      · have hbk := HK.out.2.1
        rw [show ws.take k = ws from List.take_of_length_le (Nat.le_of_eq HN.out.symm)] at hbk
        go_wp2_with (first
          | (go_at_call 127; refine (Bk.string_some w.heap.size _ _ _ hbk hne).mono ?_; rintro e W2 ⟨rfl, hb2, hd2⟩)
          | go_in)
        go_ret
        exact ⟨rfl, HK.out.2.2.1.trans hb2, Nat.le_trans HK.out.2.2.2 hd2⟩
end Go.Proofs

/- Arguments that are read as data, as pure trees. -/
namespace Go.AM

inductive F2 {α β : Type} (R : α → β → Prop) : List α → List β → Prop
  | nil : F2 R [] []
  | cons {a b l r} (h : R a b) (t : F2 R l r) : F2 R (a :: l) (b :: r)

/-- The shape of a type's cells. -/
def Fit (P : Program) : Nat → TypeId → List AV → Prop
  | 0, _, _ => False
  | f + 1, t, avs => match P.underlying t with
    | some .bool => ∃ b, avs = [.bool b]
    | some (.int k) => ∃ n, avs = [.int k n] ∧ k.min ≤ n ∧ n ≤ k.max
    | some .string => ∃ s, avs = [.str s]
    | some (.slice e) => P.cellsOf e = 0 ∨ ∃ es, avs = [.rsl (P.cellsOf e) es] ∧ es.length ≤ maxLen ∧ ∀ x ∈ es, x.length = P.cellsOf e ∧ Fit P f e x
    | some (.struct fs) => ∃ parts : List (List AV), avs = parts.flatten ∧ F2 (fun (fl : Field) p => p.length = P.cellsOf fl.type ∧ Fit P f fl.type p) fs.toList parts
    | some (.array n e) => ∃ parts : List (List AV), avs = parts.flatten ∧ parts.length = n ∧ ∀ p ∈ parts, p.length = P.cellsOf e ∧ Fit P f e p
    | _ => True

abbrev immW (w : World) : Nat → Prop := immF w fun _ => False
def Match (w : World) (avs : List AV) (cs : List Value) : Prop := avs.length = cs.length ∧ ∀ i, i < avs.length → RelP (immW w) w (avs.getD i .any) (cs.getD i undef)

theorem Match.append {w : World} {a a' : List AV} {c c' : List Value} (h : Match w a c) (h' : Match w a' c') : Match w (a ++ a') (c ++ c') := by
  obtain ⟨h1, h2⟩ := h
  obtain ⟨k1, k2⟩ := h'
  refine ⟨by simp [h1, k1], fun i hi => ?_⟩
  rw [getD_append, getD_append, ← h1]
  by_cases hlt : i < a.length
  · rw [if_pos hlt, if_pos hlt]; exact h2 i hlt
  · rw [if_neg hlt, if_neg hlt]
    exact k2 _ (by simp at hi; omega)
theorem Match.one {w : World} {a : AV} {u : Value} (h : RelP (immW w) w a u) : Match w [a] [u] := ⟨rfl, fun i hi => by
  match i, hi with
  | 0, _ => exact h⟩

theorem mapM_some {α β : Type} {f : α → Option β} : ∀ {l : List α} {r : List β}, l.mapM f = some r → F2 (fun a b => f a = some b) l r
  | [], r, h => by
    simp only [List.mapM_nil, Option.pure_def, Option.some.injEq] at h
    subst h; exact .nil
  | a :: l, r, h => by
    rw [List.mapM_cons] at h
    cases ha : f a with
    | none => simp [ha] at h
    | some b =>
      cases hl : l.mapM f with
      | none => simp [ha, hl] at h
      | some r' =>
        simp [ha, hl] at h
        subst h
        exact .cons ha (mapM_some hl)

theorem range_mapM {β : Type} {f : Nat → Option β} {n : Nat} {r : List β} (h : (List.range n).mapM f = some r) : r.length = n ∧ ∀ i, i < n → ∃ b, r[i]? = some b ∧ f i = some b := by
  have h2 := mapM_some h
  have key : ∀ {l : List Nat} {r : List β}, F2 (fun a b => f a = some b) l r → r.length = l.length ∧ ∀ (i a : Nat), l[i]? = some a → ∃ b, r[i]? = some b ∧ f a = some b := by
    intro l r h
    induction h with
    | nil => exact ⟨rfl, by simp⟩
    | cons h t ih =>
      refine ⟨by simp [ih.1], fun i a ha => ?_⟩
      cases i with
      | zero => simp only [List.getElem?_cons_zero, Option.some.injEq] at ha; subst ha; exact ⟨_, rfl, h⟩
      | succ i => simpa using ih.2 i a (by simpa using ha)
  obtain ⟨k1, k2⟩ := key h2
  refine ⟨by simpa using k1, fun i hi => k2 i i (by simp [hi])⟩

theorem cells?_spec {w : World} {a : Addr} {n : Nat} {cs : List Value} (h : w.cells? 0 a n = some cs) : cs.length = n ∧ ∀ j, j < n → w.cell? (a.add j) = some (cs.getD j undef) := by
  simp only [World.cells?, Nat.zero_le, if_true] at h
  obtain ⟨h1, h2⟩ := range_mapM h
  refine ⟨h1, fun j hj => ?_⟩
  obtain ⟨b, e1, e2⟩ := h2 j hj
  rw [e2, List.getD_eq_getElem?_getD, e1]; rfl

theorem cell?_spot {w : World} {a : Addr} {v : Value} (h : w.cell? a = some v) : a.spot = none ∧ a.block < w.heap.size := by
  unfold World.cell? at h
  split at h
  · rename_i c _ _ hh
    split at h
    · cases h
    · rename_i hs
      exact ⟨by simpa using hs, heap_lt hh⟩
  · cases h

theorem chunks_struct {P : Program} (cs : List Value) : ∀ (fs : List Field) (o : Nat), (∀ (j : Nat) f, fs[j]? = some f → f.offset = o + ((fs.take j).map fun f => P.cellsOf f.type).sum) →
    (fs.map fun f => (cs.drop f.offset).take (P.cellsOf f.type)).flatten = (cs.drop o).take ((fs.map fun f => P.cellsOf f.type).sum)
  | [], o, _ => by simp
  | f :: fs, o, h => by
    have h0 := h 0 f rfl
    simp at h0
    have ih := chunks_struct (P := P) cs fs (o + P.cellsOf f.type) fun j g hj => by
      have := h (j + 1) g (by simpa using hj)
      rw [this]
      simp [Nat.add_assoc]
    simp only [List.map_cons, List.flatten_cons, List.sum_cons, ih, h0]
    rw [List.take_add, List.drop_drop]

theorem chunks_array (cs : List Value) (m : Nat) : ∀ n, ((List.range n).map fun i => (cs.drop (i * m)).take m).flatten = cs.take (n * m)
  | 0 => by simp
  | n + 1 => by
    rw [List.range_succ, List.map_append, List.flatten_append, chunks_array cs m n, Nat.succ_mul, List.take_add]
    simp

theorem match_flatten {α : Type} {w : World} {g : α → List Value} {p : α → List AV → Prop} : ∀ {l : List α} {parts : List (List AV)}, F2 (fun a x => p a x ∧ Match w x (g a)) l parts → Match w parts.flatten (l.map g).flatten
  | _, _, .nil => ⟨rfl, by simp⟩
  | _, _, .cons h t => by
    simp only [List.flatten_cons, List.map_cons]
    exact h.2.append (match_flatten t)

theorem forall2_imp {α β : Type} {R S : α → β → Prop} (h : ∀ a b, R a b → S a b) : ∀ {l : List α} {r : List β}, F2 R l r → F2 S l r
  | _, _, .nil => .nil
  | _, _, .cons h1 t => .cons (h _ _ h1) (forall2_imp h t)
theorem forall2_len {α β : Type} {R : α → β → Prop} : ∀ {l : List α} {r : List β}, F2 R l r → l.length = r.length
  | _, _, .nil => rfl
  | _, _, .cons _ t => by simp [forall2_len t]
theorem forall2_right {α β : Type} {R : α → β → Prop} {Q : β → Prop} (h : ∀ a b, R a b → Q b) : ∀ {l : List α} {r : List β}, F2 R l r → ∀ b ∈ r, Q b
  | _, _, .nil, b, hb => by cases hb
  | _, _, .cons h1 t, b, hb => by
    rcases List.mem_cons.1 hb with rfl | hb
    · exact h _ _ h1
    · exact forall2_right h t b hb

theorem fit_of_trod {H : Type} {enc : TypeId × Value → H} {P : Program} {w : World} (hl : laidOutB P = true) : ∀ (n : Nat) (t : TypeId) (cs : List Value) (x : DataW H × List MemPlace), t < P.types.size →
    DataW.trod enc P w 0 (fun _ => true) true n t cs = some x → ∃ avs, Fit P n t avs ∧ Match w avs cs := by
  intro n
  induction n with
  | zero => intro t cs x _ h; simp [DataW.trod] at h
  | succ n ih =>
    intro t cs x ht h
    have hany : (match P.underlying t with | some .bool | some (.int _) | some .string | some (.slice _) | some (.struct _) | some (.array _ _) => False | _ => True) → ∃ avs, Fit P (n + 1) t avs ∧ Match w avs cs := fun hh => by
      refine ⟨List.replicate cs.length .any, ?_, by simp, fun i hi => ?_⟩
      · unfold Fit
        split <;> simp_all
      · have : (List.replicate cs.length AV.any).getD i .any = .any := by
          simp only [List.getD_eq_getElem?_getD]
          cases h : (List.replicate cs.length AV.any)[i]? with
          | none => rfl
          | some y => simp [List.getElem?_replicate] at h; simp [h.2]
        rw [this]; exact .any _
    by_cases hh : (match P.underlying t with | some .bool | some (.int _) | some .string | some (.slice _) | some (.struct _) | some (.array _ _) => False | _ => True)
    · exact hany hh
    cases hu : P.underlying t with
    | none => exact absurd (by rw [hu]; trivial) hh
    | some d =>
      rw [hu] at hh
      cases d <;> first | exact absurd trivial hh | skip
      case bool =>
        unfold DataW.trod at h
        rw [hu] at h
        rcases cs with _ | ⟨c, _ | ⟨c2, rest⟩⟩ <;> (try cases c) <;> simp at h
        exact ⟨[.bool _], by unfold Fit; rw [hu]; exact ⟨_, rfl⟩, .one (.bool _)⟩
      case int k =>
        unfold DataW.trod at h
        rw [hu] at h
        rcases cs with _ | ⟨c, _ | ⟨c2, rest⟩⟩ <;> (try cases c) <;> simp at h
        rename_i k' m
        obtain ⟨⟨rfl, h1⟩, _⟩ := h
        exact ⟨[.int k' m], by unfold Fit; rw [hu]; exact ⟨_, rfl, by simpa [Lit.wf] using h1⟩, .one (.int _ _)⟩
      case string =>
        unfold DataW.trod at h
        rw [hu] at h
        rcases cs with _ | ⟨c, _ | ⟨c2, rest⟩⟩ <;> (try cases c) <;> simp at h
        exact ⟨[.str _], by unfold Fit; rw [hu]; exact ⟨_, rfl⟩, .one (.str _)⟩
      case slice e =>
        have he := kid_slice hl ht hu
        unfold DataW.trod at h
        rw [hu] at h
        have hbad : ∀ c c2 rest, cs ≠ c :: c2 :: rest := fun c c2 rest e => by subst e; cases c <;> simp at h
        rcases cs with _ | ⟨c, _ | ⟨c2, rest⟩⟩
        · simp at h
        rotate_left
        · exact absurd rfl (hbad _ _ _)
        cases c <;> first | (simp at h; done) | skip
        rename_i a len cap
        cases a with
        | none =>
          rcases len with _ | len <;> rcases cap with _ | cap <;> first | (simp at h; done) | skip
          exact ⟨[.rsl (P.cellsOf e) []], by unfold Fit; rw [hu]; exact .inr ⟨[], rfl, by simp, by simp⟩, .one (.rnil _ _ _)⟩
        | some a =>
          dsimp only at h
          split at h
          · rename_i hb
            cases hm : (List.range len).mapM (fun i => (w.cells? 0 (a.add (i * P.cellsOf e)) (P.cellsOf e)).bind (DataW.trod enc P w 0 (fun _ => true) true n e)) with
            | none => rw [hm] at h; simp at h
            | some elems =>
              obtain ⟨k1, k2⟩ := range_mapM hm
              have k3 : ∀ i, i < len → ∃ avs cs', w.cells? 0 (a.add (i * P.cellsOf e)) (P.cellsOf e) = some cs' ∧ Fit P n e avs ∧ Match w avs cs' := fun i hi => by
                obtain ⟨b, _, e2⟩ := k2 i hi
                cases hc : w.cells? 0 (a.add (i * P.cellsOf e)) (P.cellsOf e) with
                | none => rw [hc] at e2; simp at e2
                | some cs' =>
                  rw [hc] at e2
                  obtain ⟨avs, h1, h2⟩ := ih e cs' b he e2
                  exact ⟨avs, cs', rfl, h1, h2⟩
              classical
              let F : Nat → List AV := fun i => if hi : i < len then Classical.choose (k3 i hi) else []
              let es := (List.range len).map F
              have hlen : es.length = len := by simp [es]
              have hget : ∀ i, i < len → es.getD i [] = F i := fun i hi => by simp [es, List.getD_eq_getElem?_getD, hi]
              have hF : ∀ i, i < len → ∃ cs', w.cells? 0 (a.add (i * P.cellsOf e)) (P.cellsOf e) = some cs' ∧ Fit P n e (F i) ∧ Match w (F i) cs' := fun i hi => by
                have := Classical.choose_spec (k3 i hi)
                simp only [F, dif_pos hi]
                exact this
              have hes : ∀ x ∈ es, x.length = P.cellsOf e ∧ Fit P n e x := fun x hx => by
                simp only [es, List.mem_map, List.mem_range] at hx
                obtain ⟨i, hi, rfl⟩ := hx
                obtain ⟨cs', h1, h2, h3⟩ := hF i hi
                exact ⟨h3.1.trans (cells?_spec h1).1, h2⟩
              rcases Nat.eq_zero_or_pos (P.cellsOf e) with hz | hz
              · exact ⟨[.any], by unfold Fit; rw [hu]; exact .inl hz, .one (.any _)⟩
              refine ⟨[.rsl (P.cellsOf e) es], by unfold Fit; rw [hu]; exact .inr ⟨es, rfl, by rw [hlen]; omega, hes⟩, .one ?_⟩
              rcases Nat.eq_zero_or_pos len with h0 | h0
              · have : es = [] := List.length_eq_zero_iff.1 (by omega)
                rw [this, h0]; exact .rnil _ _ _
              · have hcell : ∀ i j, i < len → j < P.cellsOf e → ∃ v, w.cell? ((a.add (i * P.cellsOf e)).add j) = some v ∧ RelP (immW w) w ((es.getD i []).getD j .any) v := fun i j hi hj => by
                  obtain ⟨cs', h1, h2, h3⟩ := hF i hi
                  obtain ⟨g1, g2⟩ := cells?_spec h1
                  refine ⟨_, g2 j hj, ?_⟩
                  rw [hget i hi]
                  exact h3.2 j (by rw [h3.1, g1]; exact hj)
                obtain ⟨v0, g1, _⟩ := hcell 0 0 h0 hz
                simp only [Nat.zero_mul, Addr.add, if_true] at g1
                obtain ⟨hs, hblk⟩ := cell?_spot g1
                obtain ⟨b, off, sp⟩ := a
                simp only at hs
                subst hs
                have hadd : ∀ i j, ((⟨b, off, none⟩ : Addr).add (i * P.cellsOf e)).add j = ⟨b, off + i * P.cellsOf e + j, none⟩ := fun i j => by
                  simp only [Addr.add]
                  split <;> split <;> simp_all
                rw [← hlen]
                refine .rsl _ es b off cap (fun i j => (w.cell? ⟨b, off + i * P.cellsOf e + j, none⟩).getD undef) (by omega) ⟨hblk, fun h => h⟩ (fun x hx => (hes x hx).1) (fun i j hi hj => ?_) (fun i j hi hj => ?_)
                · obtain ⟨v, e1, _⟩ := hcell i j (by omega) hj
                  rw [hadd] at e1
                  simp [e1]
                · obtain ⟨v, e1, e2⟩ := hcell i j (by omega) hj
                  rw [hadd] at e1
                  simpa [e1] using e2
          · cases h
      case struct fs =>
        obtain ⟨hk1, hk2, hk3⟩ := kid_struct hl ht hu
        unfold DataW.trod at h
        rw [hu] at h
        dsimp only at h
        split at h
        · rename_i hlen
          cases hm : (fs.toList.mapM fun f => DataW.trod enc P w 0 (fun _ => true) true n f.type ((cs.drop f.offset).take (P.cellsOf f.type))) with
          | none => rw [hm] at h; simp at h
          | some xs =>
            have h2 := mapM_some hm
            have h3 : ∃ parts : List (List AV), F2 (fun (fl : Field) p => (p.length = P.cellsOf fl.type ∧ Fit P n fl.type p) ∧ Match w p ((cs.drop fl.offset).take (P.cellsOf fl.type))) fs.toList parts := by
              have hall : ∀ f ∈ fs.toList, f.type < P.types.size ∧ f.offset + P.cellsOf f.type ≤ cs.length := fun f hf => by
                refine ⟨hk1 f hf, ?_⟩
                obtain ⟨j, hj, rfl⟩ := List.mem_iff_getElem.1 hf
                have h5 := hk3 j fs.toList[j] (List.getElem?_eq_getElem hj)
                rw [h5, hlen, hk2]
                have h6 : (fs.toList.map fun f => P.cellsOf f.type).sum = ((fs.toList.take j).map fun f => P.cellsOf f.type).sum + ((fs.toList.drop j).map fun f => P.cellsOf f.type).sum := by
                  rw [← List.sum_append, ← List.map_append, List.take_append_drop]
                rw [h6, List.drop_eq_getElem_cons hj]
                simp
              clear hm h hk1 hk2 hk3
              generalize fs.toList = l at h2 hall
              induction h2 with
              | nil => exact ⟨[], .nil⟩
              | cons h1 t ih2 =>
                rename_i f y l' r'
                obtain ⟨parts, hp⟩ := ih2 fun f hf => hall f (List.mem_cons_of_mem _ hf)
                obtain ⟨g1, g2⟩ := hall f (List.mem_cons_self ..)
                obtain ⟨avs, k1, k2⟩ := ih _ _ _ g1 h1
                exact ⟨avs :: parts, .cons ⟨⟨by rw [k2.1]; simp; omega, k1⟩, k2⟩ hp⟩
            obtain ⟨parts, hp⟩ := h3
            refine ⟨parts.flatten, by unfold Fit; rw [hu]; exact ⟨parts, rfl, forall2_imp (fun _ _ h => h.1) hp⟩, ?_⟩
            have h4 := match_flatten hp
            rw [chunks_struct cs fs.toList 0 (fun j f hj => by simpa using hk3 j f hj)] at h4
            rw [← hk2, ← hlen] at h4
            simpa using h4
        · cases h
      case array m e =>
        obtain ⟨he, hsz⟩ := kid_array hl ht hu
        unfold DataW.trod at h
        rw [hu] at h
        dsimp only at h
        split at h
        · rename_i hlen
          cases hm : ((List.range m).mapM fun i => DataW.trod enc P w 0 (fun _ => true) true n e ((cs.drop (i * P.cellsOf e)).take (P.cellsOf e))) with
          | none => rw [hm] at h; simp at h
          | some xs =>
            have h2 := mapM_some hm
            have h3 : ∃ parts : List (List AV), F2 (fun (i : Nat) p => (p.length = P.cellsOf e ∧ Fit P n e p) ∧ Match w p ((cs.drop (i * P.cellsOf e)).take (P.cellsOf e))) (List.range m) parts := by
              have hall : ∀ i ∈ List.range m, (i + 1) * P.cellsOf e ≤ cs.length := fun i hi => by
                rw [hlen, hsz]
                exact Nat.mul_le_mul_right _ (by have := List.mem_range.1 hi; omega)
              clear hm h hsz
              generalize List.range m = l at h2 hall
              induction h2 with
              | nil => exact ⟨[], .nil⟩
              | cons h1 t ih2 =>
                rename_i i y l' r'
                obtain ⟨parts, hp⟩ := ih2 fun f hf => hall f (List.mem_cons_of_mem _ hf)
                have g2 := hall i (List.mem_cons_self ..)
                obtain ⟨avs, k1, k2⟩ := ih _ _ _ he h1
                rw [Nat.succ_mul] at g2
                exact ⟨avs :: parts, .cons ⟨⟨by rw [k2.1]; simp; omega, k1⟩, k2⟩ hp⟩
            obtain ⟨parts, hp⟩ := h3
            refine ⟨parts.flatten, by unfold Fit; rw [hu]; exact ⟨parts, rfl, by have := forall2_len hp; simpa using this.symm, forall2_right (fun _ _ h => h.1) hp⟩, ?_⟩
            have h4 := match_flatten (g := fun i => (cs.drop (i * P.cellsOf e)).take (P.cellsOf e)) hp
            rw [chunks_array, ← hsz, ← hlen] at h4
            simpa using h4
        · cases h

end Go.AM

/- A law's contract out of a contract over pure trees. -/
namespace Go.AM
open Go.RowKit Go.WideShapes Go.ChangeShapes

def aggT (P : Program) (t : TypeId) : Bool :=
  match P.underlying t with
  | some (.struct _) | some (.array _ _) => true
  | _ => false
def supT (P : Program) (t : TypeId) : Bool :=
  match P.underlying t with
  | some .bool | some (.int _) | some .string | some (.slice _) | some (.struct _) | some (.array _ _) => true
  | _ => false
def argAV (P : Program) (t : TypeId) (avs : List AV) : AV := if aggT P t then .agg avs else avs.getD 0 .any
def argsAV (P : Program) : List TypeId → List (List AV) → List AV
  | t :: ts, a :: avs => argAV P t a :: argsAV P ts avs
  | _, _ => []

theorem match_arg {P : Program} {w : World} {t : TypeId} {v : Value} {avs : List AV} {base : Nat} (hs : supT P t = true) (hok : Value.okWide P w .any base t v) (h : Match w avs v.cells.toList) : RelP (immW w) w (argAV P t avs) v := by
  have hone : (∀ cs, v ≠ .agg cs) → aggT P t = false → RelP (immW w) w (argAV P t avs) v := fun hv ha => by
    have hc : v.cells.toList = [v] := by
      cases v <;> first | rfl | exact absurd rfl (hv _)
    rw [hc] at h
    unfold argAV
    rw [ha]
    exact h.2 0 (by rw [h.1]; simp)
  have hagg : (∃ cs, v = .agg cs) → aggT P t = true → RelP (immW w) w (argAV P t avs) v := fun ⟨cs, e⟩ ha => by
    subst e
    unfold argAV
    rw [ha]
    obtain ⟨l⟩ := cs
    exact .agg _ _ h.1 h.2
  cases hu : P.underlying t with
  | none => simp [supT, hu] at hs
  | some d =>
    cases d <;> first | (simp [supT, hu] at hs; done) | skip
    case bool => obtain ⟨b, rfl⟩ := okWide_bool hu hok; exact hone (by simp) (by simp [aggT, hu])
    case int => obtain ⟨b, rfl⟩ := okWide_int hu hok; exact hone (by simp) (by simp [aggT, hu])
    case string => obtain ⟨b, rfl⟩ := okWide_string hu hok; exact hone (by simp) (by simp [aggT, hu])
    case slice => obtain ⟨b, _, _, rfl⟩ := okWide_slice hu hok; exact hone (by simp) (by simp [aggT, hu])
    case struct => obtain ⟨cs, rfl, _⟩ := okWide_struct hu hok; exact hagg ⟨_, rfl⟩ (by simp [aggT, hu])
    case array =>
      unfold Value.okWide at hok
      rw [hu] at hok
      obtain ⟨cs, rfl, _⟩ := hok
      exact hagg ⟨_, rfl⟩ (by simp [aggT, hu])

theorem args_match {H : Type} {enc : TypeId × Value → H} {P : Program} {w : World} {base : Nat} (hl : laidOutB P = true) : ∀ {ts : List TypeId} {vs : List Value} {ds : List (DataW H)} {ps : List MemPlace}, (∀ t ∈ ts, t < P.types.size ∧ supT P t = true) →
    (∀ (j : Nat) t v, ts[j]? = some t → vs[j]? = some v → Value.okWide P w .any base t v) → DataW.TrodAll enc P w 0 (fun _ => true) true ts vs ds ps →
    ∃ ass, F2 (fun t avs => ∃ n, Fit P n t avs) ts ass ∧ (argsAV P ts ass).length = vs.length ∧ ∀ i, i < vs.length → RelP (immW w) w ((argsAV P ts ass).getD i .any) (vs.getD i undef)
  | [], vs, ds, ps, _, _, h => by
    obtain ⟨rfl, _, _⟩ := trodAll_nil h
    exact ⟨[], .nil, rfl, by simp⟩
  | t :: ts, vs, ds, ps, hts, hv, h => by
    obtain ⟨v, vs', d, ds', p, q, rfl, rfl, rfl, ⟨n, h1⟩, h2⟩ := trodAll_cons h
    obtain ⟨avs, k1, k2⟩ := fit_of_trod hl n t _ _ (hts t (List.mem_cons_self ..)).1 h1
    obtain ⟨ass, j1, j2, j3⟩ := args_match hl (fun t ht => hts t (List.mem_cons_of_mem _ ht)) (fun j t v e1 e2 => hv (j + 1) t v (by simpa using e1) (by simpa using e2)) h2
    refine ⟨avs :: ass, .cons ⟨n, k1⟩ j1, by simp [argsAV, j2], fun i hi => ?_⟩
    cases i with
    | zero => simpa [argsAV] using match_arg (hts t (List.mem_cons_self ..)).2 (hv 0 t v rfl rfl) k2
    | succ i => simpa [argsAV] using j3 i (by simpa using hi)

theorem Ext.below {w w' : World} (h : Ext (fun _ => False) w w') : Below w.heap.size w w' := ⟨h.os, h.tape, h.output, h.size, fun k hk => h.block k hk fun e => e⟩

theorem trodAll_below {H : Type} {enc : TypeId × Value → H} {P : Program} {W W' : World} (hl : laidOutB P = true) (hb : Below W.heap.size W W') {sp : Nat → Bool} : ∀ {ts : List TypeId} {vs : List Value} {ds : List (DataW H)} {ps : List MemPlace},
    (∀ t ∈ ts, t < P.types.size ∧ P.readableRec t = true) → DataW.TrodAll enc P W 0 (fun _ => true) true ts vs ds ps → (∀ p ∈ ps, p.block < W.heap.size ∧ sp p.block = true) → DataW.TrodAll enc P W' 0 sp true ts vs ds ps
  | [], vs, ds, ps, _, h, _ => by
    obtain ⟨rfl, rfl, rfl⟩ := trodAll_nil h
    rfl
  | t :: ts, vs, ds, ps, hts, h, hp => by
    obtain ⟨v, vs', d, ds', p, q, rfl, rfl, rfl, h1, h2⟩ := trodAll_cons h
    obtain ⟨g1, g2⟩ := hts t (List.mem_cons_self ..)
    exact ⟨p, q, WideElems.Trod_stays hl g2 g1 h1 (fun x hx => hb.same (hp x (List.mem_append_left _ hx)).1) (fun x hx => (hp x (List.mem_append_left _ hx)).2),
      trodAll_below hl hb (fun t ht => hts t (List.mem_cons_of_mem _ ht)) h2 (fun x hx => hp x (List.mem_append_right _ hx)), rfl⟩

theorem trodAll_len {H : Type} {enc : TypeId × Value → H} {P : Program} {w : World} {b : Nat} {sp : Nat → Bool} {hd : Bool} : ∀ {ts : List TypeId} {vs : List Value} {ds : List (DataW H)} {ps : List MemPlace}, DataW.TrodAll enc P w b sp hd ts vs ds ps → vs.length = ts.length ∧ ds.length = ts.length
  | [], vs, ds, ps, h => by
    obtain ⟨rfl, rfl, rfl⟩ := trodAll_nil h
    exact ⟨rfl, rfl⟩
  | t :: ts, vs, ds, ps, h => by
    obtain ⟨v, vs', d, ds', p, q, rfl, rfl, rfl, _, h2⟩ := trodAll_cons h
    have := trodAll_len h2
    exact ⟨by simp [this.1], by simp [this.2]⟩

/-- What the form asks of a law's call, out of a contract over pure trees. -/
theorem law_contract {H : Type} {enc : TypeId × Value → H} {P : Program} {fn : Func} {f : FuncId} {s : ChangeSpec} (hl : laidOutB P = true) {ts : List TypeId} {T : TypeId} (hps : fn.params.toList = ts) (hrs : fn.resultTypes = #[T]) (hT : P.underlying T = some .bool)
    (hts : ts.all (fun t => decide (t < P.types.size) && supT P t && P.readableRec t) = true) (hvars : s.vars = []) (hs : ∀ ds : List (DataW H), ds.length = ts.length → s.fn H ds = { results := [.lit (.bool true)], args := ds })
    (hread : ∀ ass, F2 (fun t avs => ∃ n, Fit P n t avs) ts ass → Reads P f false (argsAV P ts ass) (.bool true))
    {W : World} {base : Nat} {args : Array Value} {ds gs : List (DataW H)} {before : List MemPlace} (hval : ∀ (j : Nat) t v, fn.params[j]? = some t → args[j]? = some v → Value.okWide P W .any base t v)
    (hW : DataW.Whole enc P fn.params.toList s.vars false W args.toList ds gs before) (hgl : GL (immF W fun _ => False) W) :
    Calls P f args W fun e W' => ∃ v, e = .returned v ∧ s.post enc P fn false true false false W args v W' := by
  have hts' : ∀ t ∈ ts, t < P.types.size ∧ supT P t = true ∧ P.readableRec t = true := fun t ht => by
    have := List.all_eq_true.1 hts t ht
    simpa [and_assoc] using this
  have hW' := hW
  obtain ⟨p, q, hA, hV, rfl, hfz, hnd⟩ := hW
  rw [hvars] at hV
  obtain ⟨rfl, rfl⟩ := trodVars_none hV
  rw [hps] at hA
  obtain ⟨hl1, hl2⟩ := trodAll_len hA
  obtain ⟨ass, j1, j2, j3⟩ := args_match hl (fun t ht => ⟨(hts' t ht).1, (hts' t ht).2.1⟩) (fun j t v e1 e2 => hval j t v (by rw [← hps] at e1; simpa using e1) (by simpa using e2)) hA
  have hc := hread ass j1 W (fun _ => False) args.toList (fun _ h => h.elim) hgl j2.symm (fun i hi => j3 i (by omega))
  rw [show args.toList.toArray = args by simp] at hc
  refine hc.mono fun e W' ⟨u, h1, h2, h3⟩ => ⟨u, h1, ?_⟩
  have hu : u = .bool true := by cases h3; rfl
  subst hu
  have hb := h2.below
  have hlt : ∀ x ∈ p, x.block < W.heap.size := fun x hx => hW'.lt x (by simpa using hx)
  have hsf := hs ds hl2
  have hres : ∀ (b : Nat) (sp : Nat → Bool) (hd : Bool), DataW.TrodAll enc P W' b sp hd fn.resultTypes.toList ((Value.bool true).resultList fn.resultTypes.size) (s.fn H (ds ++ [])).results [] := fun b sp hd => by
    rw [hrs, List.append_nil, hsf]
    exact trodAll_mk1 (shut_bool hT true)
  have hargs : ∀ sp : Nat → Bool, (∀ x ∈ p, sp x.block = true) → DataW.TrodAll enc P W' 0 sp true fn.params.toList args.toList (s.fn H (ds ++ [])).args p := fun sp hsp => by
    rw [List.append_nil, hsf, hps]
    exact trodAll_below hl hb (fun t ht => ⟨(hts' t ht).1, (hts' t ht).2.2⟩) hA fun x hx => ⟨hlt x hx, hsp x hx⟩
  have hvs : ∀ sp : Nat → Bool, DataW.TrodVars enc P W' sp s.vars (s.fn H (ds ++ [])).vars [] := fun sp => by
    rw [List.append_nil, hsf, hvars]; rfl
  refine ⟨ds, [], p ++ [], [], p, [], hW', hres _ _ _, hargs _ (fun x hx => by simpa using hlt x hx), hvs _, World.keptBut_mono (fun x hx => ⟨hx, ?_⟩) (hb.frame (· ∈ p ++ [])), fun _ => ?_⟩
  · simpa using hx
  · refine ⟨ok_one hrs rfl (okWide_bool_mk hT _), _, _, ([] ++ p) ++ [], ⟨[] ++ p, [], trodAll_append (hargs _ (fun _ _ => rfl)) (hres _ _ _), hvs _, rfl, ?_, ?_⟩, ?_⟩
    · intro b off hp
      have hin : MemPlace.cell b off ∈ p := by simpa using hp
      rw [hb.frozen (hlt _ hin)]
      exact hfz b off (by simpa using hin)
    · intro ha; cases ha
    · intro x hx _
      simpa using hx

end Go.AM

namespace Go.Proofs.B
open Go.AM Go
set_option maxRecDepth 100000
set_option maxHeartbeats 2000000
theorem immF_later {w W : World} {F : Nat → Prop} (hb : RowKit.Below w.heap.size w W) : ∀ b, immF w F b → immF W F b ∧ W.heap[b]? = w.heap[b]? := fun b h => ⟨⟨Nat.lt_of_lt_of_le h.1 hb.size, h.2⟩, hb.block b h.1⟩
theorem tz_holds {w : World} {F : Nat → Prop} (hF : ∀ b, F b → b < w.heap.size) (hgl : GL (immF w F) w) : Bk.Tz w := fun W hb =>
  (tz16_r W F [.int .u64 16] (fun b hb' => Nat.lt_of_lt_of_le (hF b hb') hb.size) (hgl.mono (immF_later hb)) rfl (fun i hi => by
    match i, hi with
    | 0, _ => exact .int _ _)).mono fun e w' ⟨u, he, hx, hr⟩ => by
    cases hr
    exact ⟨he, hx.below, hx.drawn⟩
theorem set_inv {imm : Nat → Prop} {w : World} {N : Int} {W : List Int} {u : Value} (h : RelP imm w (.agg [.int .i64 N, .rsl 1 (words W)]) u) :
    ∃ a cap, u = .agg #[.int .i64 N, .slice a W.length cap] ∧ (W = [] ∨ ∃ b base, a = some ⟨b, base, none⟩ ∧ imm b ∧ ∀ i x, W[i]? = some x → w.cell? ⟨b, base + i, none⟩ = some (.int .u64 x)) := by
  cases h with
  | agg _ vs hl hr =>
    match vs, hl with
    | [u1, u2], _ =>
      have h1 := hr 0 (by simp)
      have h2 := hr 1 (by simp)
      simp only [List.getD_cons_zero, List.getD_cons_succ] at h1 h2
      cases h1
      cases W with
      | nil =>
        cases h2 with
        | rnil sz a cap => exact ⟨a, cap, rfl, .inl rfl⟩
        | rsl sz es b base cap val hc hb hs hv hr => exact ⟨_, cap, rfl, .inl rfl⟩
      | cons y ys =>
        generalize hws : words (y :: ys) = es at h2
        cases h2 with
        | rnil => simp [words] at hws
        | rsl sz es b base cap val hc hb hs hv hrr =>
          subst hws
          have hlen : (words (y :: ys)).length = (y :: ys).length := words_len _
          refine ⟨_, cap, by rw [hlen], .inr ⟨b, base, rfl, hb, fun i x hx => ?_⟩⟩
          have hi : i < (y :: ys).length := (List.getElem?_eq_some_iff.1 hx).1
          have g1 := hv i 0 (by rw [hlen]; exact hi) (by omega)
          have g2 := hrr i 0 (by rw [hlen]; exact hi) (by omega)
          rw [show ((words (y :: ys)).getD i []).getD 0 .any = .int .u64 x by
            have : (words (y :: ys))[i]? = some [.int .u64 x] := by unfold words; rw [List.getElem?_map, hx]; rfl
            rw [show (words (y :: ys)).getD i [] = [.int .u64 x] by rw [List.getD_eq_getElem?_getD, this]; rfl]; rfl] at g2
          generalize val i 0 = q at g1 g2
          cases g2
          simpa using g1
theorem okW_mem {W : List Int} (hW : okW W) {y : Int} (hy : y ∈ W) : 0 ≤ y ∧ y < 18446744073709551616 := by
  obtain ⟨i, hi⟩ := List.getElem?_of_mem hy
  have := hW i
  simpa [List.getD_eq_getElem?_getD, hi] using this
theorem text_r (N : Int) (W : List Int) (hW : okW W) (hl : W.length ≤ 1000000) : Reads Tryz.prog 107 false [.agg [.int .i64 N, .rsl 1 (words W)]] (.str ⟨(Bk.textL (W.map Int.toNat)).toArray⟩) := by
  intro w F us hF hgl hlen hargs
  match us, hlen with
  | [u0], _ =>
  have h0 := hargs 0 (by simp)
  simp only [List.getD_cons_zero] at h0
  obtain ⟨a, cap, rfl, hc⟩ := set_inv h0
  have := Bk.text N (W.map Int.toNat) (fun x hx => by
    obtain ⟨y, hy, rfl⟩ := List.mem_map.1 hx
    have := okW_mem hW hy
    omega) (by simpa using hl) a cap w (tz_holds hF hgl) (by
    rcases hc with h | ⟨b, base, ha, hb, hcell⟩
    · exact .inl (by rw [h]; rfl)
    · refine .inr ⟨b, base, ha, hb.1, fun i x hx => ?_⟩
      rw [List.getElem?_map] at hx
      cases hy : W[i]? with
      | none => rw [hy] at hx; cases hx
      | some y =>
        rw [hy] at hx
        simp only [Option.map_some, Option.some.injEq] at hx
        have := okW_mem hW (List.mem_of_getElem? hy)
        rw [← hx, hcell i y hy, Int.toNat_of_nonneg this.1])
  rw [List.length_map] at this
  refine this.mono fun e w' ⟨he, hb, hd⟩ => ⟨_, he, ⟨hb.os, hb.tape, hb.output, hb.size, fun k hk _ => hb.block k hk, hd⟩, .str _⟩
end Go.Proofs.B

/- The order of sets: first by size, then by the least element in which they part. -/
namespace Go.AM
def cmpD : List Bool → List Bool → Int
  | x :: a, y :: b => if x = y then cmpD a b else if x then -1 else 1
  | _, _ => 0
def cntB (a : List Bool) : Nat := (memB a).length
def cmpS (a b : List Bool) : Int := if a = b then 0 else if cntB a < cntB b then -1 else if cntB b < cntB a then 1 else cmpD a b
theorem cmpD_first : ∀ {a b : List Bool} {m : Nat} (_ : m < a.length) (_ : m < b.length) (_ : ∀ j, j < m → a.getD j false = b.getD j false) (_ : a.getD m false ≠ b.getD m false), cmpD a b = if a.getD m false then -1 else 1
  | x :: a, y :: b, 0, _, _, _, hne => by
    simp only [List.getD_cons_zero] at hne ⊢
    unfold cmpD
    rw [if_neg hne]
  | x :: a, y :: b, m + 1, h1, h2, he, hne => by
    have e0 := he 0 (by omega)
    simp only [List.getD_cons_zero] at e0
    unfold cmpD
    rw [if_pos e0, List.getD_cons_succ]
    exact cmpD_first (by simpa using h1) (by simpa using h2) (fun j hj => by simpa using he (j + 1) (by omega)) (by simpa using hne)
  | [], _, _, h, _, _, _ => by simp at h
  | _ :: _, [], _, _, h, _, _ => by simp at h
theorem bXor_nat {a b : Nat} (ha : a < 18446744073709551616) (hb : b < 18446744073709551616) : bXor .u64 (a : Int) (b : Int) = ((a ^^^ b : Nat) : Int) := by
  unfold bXor
  have e : (BitVec.ofInt IntKind.u64.bits (a : Int) ^^^ BitVec.ofInt IntKind.u64.bits (b : Int)).toNat = a ^^^ b := by
    show (BitVec.ofInt 64 (a : Int) ^^^ BitVec.ofInt 64 (b : Int) : BitVec 64).toNat = _
    rw [BitVec.toNat_xor, BitVec.ofInt_natCast, BitVec.ofInt_natCast, BitVec.toNat_ofNat, BitVec.toNat_ofNat, Nat.mod_eq_of_lt (by omega), Nat.mod_eq_of_lt (by omega)]
  rw [e]
  have : a ^^^ b < 2 ^ 64 := Nat.xor_lt_two_pow (by omega) (by omega)
  exact wrapU (by simpa using this)
/-- Where two words part first. -/
theorem word_part {w v : Nat} (hw : w < 18446744073709551616) (hv : v < 18446744073709551616) (hne : w ≠ v) :
    ∃ t, t < 64 ∧ (∀ s, s < t → w.testBit s = v.testBit s) ∧ w.testBit t ≠ v.testBit t ∧
      (bAnd .u64 (w : Int) (bAnd .u64 (bXor .u64 (w : Int) (v : Int)) (IntKind.u64.wrap (0 - bXor .u64 (w : Int) (v : Int)))) = 0 ↔ w.testBit t = false) := by
  have hd0 : w ^^^ v ≠ 0 := fun h => hne (by
    apply Nat.eq_of_testBit_eq
    intro i
    have := congrArg (·.testBit i) h
    simpa [Nat.testBit_xor] using this)
  have hdl : w ^^^ v < 18446744073709551616 := by
    have : w ^^^ v < 2 ^ 64 := Nat.xor_lt_two_pow (by omega) (by omega)
    simpa using this
  obtain ⟨t, m, hd⟩ := low_split (w ^^^ v) (w ^^^ v) (Nat.le_refl _) hd0
  have htl : t < 64 := low_lt (by rw [← hd]; exact hdl)
  have hb : ∀ s, (w ^^^ v).testBit s = (decide (t ≤ s) && (2 * m + 1).testBit (s - t)) := fun s => by rw [hd, Nat.testBit_two_pow_mul]
  have hneg : IntKind.u64.wrap (0 - ((w ^^^ v : Nat) : Int)) = ((18446744073709551616 - (w ^^^ v) : Nat) : Int) := by
    simp [IntKind.wrap, IntKind.signed, IntKind.bits]
    omega
  refine ⟨t, htl, fun s hs => ?_, ?_, ?_⟩
  · have := hb s
    rw [Nat.testBit_xor, show decide (t ≤ s) = false by simp; omega] at this
    simpa using this
  · have := hb t
    rw [Nat.testBit_xor, odd_bit] at this
    simpa using this
  · rw [bXor_nat hw hv, hneg, bAnd_nat hdl (by omega)]
    have hn : (w ^^^ v) &&& (18446744073709551616 - (w ^^^ v)) = 2 ^ t := by rw [hd]; exact land_neg (by rw [← hd]; exact hdl)
    rw [hn, bAnd_nat hw (by have : 2 ^ t < 2 ^ 64 := (Nat.pow_lt_pow_right (by decide) htl); simpa using this)]
    constructor
    · intro h
      have h : w &&& 2 ^ t = 0 := by exact_mod_cast h
      have := congrArg (·.testBit t) h
      simpa [Nat.testBit_and, Nat.testBit_two_pow] using this
    · intro h
      have : w &&& 2 ^ t = 0 := by
        apply Nat.eq_of_testBit_eq
        intro i
        rw [Nat.testBit_and, Nat.testBit_two_pow, Nat.zero_testBit]
        by_cases e : t = i
        · subst e; rw [h]; rfl
        · simp [e]
      rw [this]; rfl
theorem cmp_words {a b : List Bool} (hl : b.length = a.length) {k : Nat} (hk : k < (setW a a.length).length) (heq : ∀ j, j < k → (setW a a.length).getD j 0 = (setW b b.length).getD j 0)
    (hne : (setW a a.length).getD k 0 ≠ (setW b b.length).getD k 0) :
    cmpD a b = if bAnd .u64 ((setW a a.length).getD k 0) (bAnd .u64 (bXor .u64 ((setW a a.length).getD k 0) ((setW b b.length).getD k 0)) (IntKind.u64.wrap (0 - bXor .u64 ((setW a a.length).getD k 0) ((setW b b.length).getD k 0)))) = 0 then 1 else -1 := by
  have hwa := setW_len' a
  have hwb := setW_len' b
  have hWa := (setW_has a a.length (Nat.le_refl _)).1
  have hWb := (setW_has b b.length (Nat.le_refl _)).1
  have hkb : k < (setW b b.length).length := by rw [hwb, hl, ← hwa]; exact hk
  have ga : ∀ j s, j ≤ k → s < 64 → a.getD (64 * j + s) false = ((setW a a.length).getD j 0).toNat.testBit s := fun j s hj hs => by
    rw [← hasW_setW a (i := 64 * j + s) (by rw [show (64 * j + s) / 64 = j by omega]; omega), hasW_nat hWa, show (64 * j + s) / 64 = j by omega, show (64 * j + s) % 64 = s by omega]
  have gb : ∀ j s, j ≤ k → s < 64 → b.getD (64 * j + s) false = ((setW b b.length).getD j 0).toNat.testBit s := fun j s hj hs => by
    rw [← hasW_setW b (i := 64 * j + s) (by rw [show (64 * j + s) / 64 = j by omega]; omega), hasW_nat hWb, show (64 * j + s) / 64 = j by omega, show (64 * j + s) % 64 = s by omega]
  have ha0 := hWa k
  have hb0 := hWb k
  obtain ⟨w, hw⟩ := Int.eq_ofNat_of_zero_le ha0.1
  obtain ⟨v, hv⟩ := Int.eq_ofNat_of_zero_le hb0.1
  have ga1 := ga k
  have gb1 := gb k
  simp only [hw, hv] at hne ha0 hb0 ga1 gb1 ⊢
  simp only [Int.toNat_natCast] at ga1 gb1
  obtain ⟨t, ht, hlo, hpt, hif⟩ := word_part (w := w) (v := v) (by omega) (by omega) (fun e => hne (by rw [e]))
  have hm : 64 * k + t < a.length := by
    refine Nat.lt_of_not_le fun h => hpt ?_
    rw [← ga1 t (Nat.le_refl _) ht, ← gb1 t (Nat.le_refl _) ht, List.getD_eq_getElem?_getD, List.getElem?_eq_none h, List.getD_eq_getElem?_getD, List.getElem?_eq_none (by omega)]
  have hc := cmpD_first (a := a) (b := b) (m := 64 * k + t) hm (by omega) (fun j hj => by
    rcases Nat.lt_or_ge j (64 * k) with h | h
    · have := heq (j / 64) (by omega)
      rw [show j = 64 * (j / 64) + j % 64 by omega, ga (j / 64) (j % 64) (by omega) (by omega), gb (j / 64) (j % 64) (by omega) (by omega), this]
    · rw [show j = 64 * k + (j - 64 * k) by omega, ga1 _ (Nat.le_refl _) (by omega), gb1 _ (Nat.le_refl _) (by omega)]
      exact hlo _ (by omega)) (by rw [ga1 t (Nat.le_refl _) ht, gb1 t (Nat.le_refl _) ht]; exact hpt)
  rw [hc, ga1 t (Nat.le_refl _) ht]
  cases hb : w.testBit t
  · rw [if_pos (hif.2 hb)]; rfl
  · rw [if_pos rfl, if_neg (fun h => by rw [hif.1 h] at hb; cases hb)]
theorem getD_some {l : List Int} {j : Nat} {x : Int} (h : l[j]? = some x) : l.getD j 0 = x := by rw [List.getD_eq_getElem?_getD, h]; rfl
theorem take_getD {l m : List Int} {j i : Nat} (h : l.take j = m.take j) (hi : i < j) : l.getD i 0 = m.getD i 0 := by
  have := congrArg (fun z => z.getD i 0) h
  simpa [List.getD_eq_getElem?_getD, List.getElem?_take, hi] using this
theorem cmp_at {a b : List Bool} (hl : b.length = a.length) {W V : List Int} (hW : setW a a.length = W) (hV : setW b b.length = V) {j : Nat} {x y : Int} (hx : W[j]? = some x) (hy : V[j]? = some y) (hall : W.take j = V.take j) (hne : x ≠ y) :
    cmpD a b = if bAnd .u64 x (bAnd .u64 (bXor .u64 x y) (IntKind.u64.wrap (0 - bXor .u64 x y))) = 0 then 1 else -1 := by
  subst hW; subst hV
  have := cmp_words hl (k := j) (List.getElem?_eq_some_iff.1 hx).1 (fun i hi => take_getD hall hi) (by rw [getD_some hx, getD_some hy]; exact hne)
  rw [getD_some hx, getD_some hy] at this
  exact this
theorem bXor_zero {x y : Int} (hx : 0 ≤ x ∧ x < 18446744073709551616) (hy : 0 ≤ y ∧ y < 18446744073709551616) : bXor .u64 x y = 0 ↔ x = y := by
  obtain ⟨w, rfl⟩ := Int.eq_ofNat_of_zero_le hx.1
  obtain ⟨v, rfl⟩ := Int.eq_ofNat_of_zero_le hy.1
  rw [bXor_nat (by omega) (by omega)]
  constructor
  · intro h
    have h : w ^^^ v = 0 := by exact_mod_cast h
    have : w = v := by
      apply Nat.eq_of_testBit_eq
      intro i
      have := congrArg (·.testBit i) h
      simpa [Nat.testBit_xor] using this
    rw [this]
  · intro h
    have : w = v := by exact_mod_cast h
    rw [this, Nat.xor_self]; rfl
theorem row_words {a b : List Bool} (hl : b.length = a.length) (h : setW a a.length = setW b b.length) : a = b := by
  refine List.ext_getElem hl.symm fun j h1 h2 => ?_
  have e1 := hasW_setW a (i := j) (by rw [setW_len']; exact div_words h1)
  have e2 := hasW_setW b (i := j) (by rw [setW_len']; exact div_words h2)
  rw [h, e2] at e1
  simpa [List.getD_eq_getElem?_getD, h1, h2] using e1.symm
end Go.AM

namespace Go.Proofs.B
open Go.AM Go
set_option maxRecDepth 100000
set_option maxHeartbeats 4000000
theorem eqw_r (a b : List Int) (hla : a.length ≤ 9223372036854775807) : Reads Tryz.prog 21 false [.rsl 1 (words a), .rsl 1 (words b)] (.bool (a == b)) := by
 refine Reads.body (rs := [.tmp 4]) Tryz.func21 rfl Tryz.ntmps21 rfl (by simp) ?_
 generalize hQr : retQ _ _ _ = Qr
 refine AW.sg [0,1] [] trivial ?_
 refine AW.seq fun K1 hK1 => ?_
 refine AW.sg [0,1,10] [] trivial ?_
 refine AW.cn ?_ ?_
 ·intro hb
  rw [← Ne, Ne, Int.natCast_inj] at hb
  refine AW.sg [4] [] trivial ?_
  rw [← hQr]
  refine AW.rt trivial ?_
  exact Wk.of_eq (by rw [eqL_len hb])
 ·intro hb
  have hlen : a.length = b.length := by omega
  refine AW.skip ?_
  refine hK1 _ _ _ ?_; clear hK1
  refine AW.seq fun K2 hK2 => ?_
  refine AW.sg [0,1,12,13] [] trivial ?_
  refine AW.block ?_
  refine AW.loopE (fun mm ee ss kk => ∃ (j : Nat), a.length - j = mm ∧ ee = [(0, .rsl 1 (words a)), (1, .rsl 1 (words b)), (12, .int .i64 a.length), (13, .int .i64 (j : Nat))] ∧ ss = [] ∧ (j ≤ a.length ∧ a.take j = b.take j)) ?_ ?_
  ·exact ⟨_, 0, rfl, eD, eD, eT⟩
  rintro mm ee ss kk ⟨j, rfl, rfl, rfl, hI⟩
  generalize hQl1 : thenQ _ _ = Ql1
  obtain ⟨hj, hall⟩ := hI
  refine AW.sg [0,1,12,13,14] [] trivial ?_
  refine AW.seq fun K3 hK3 => ?_
  refine AW.cn ?_ ?_
  ·intro hb
   obtain ⟨x, hx⟩ := getI (l := a) (j := j) (by omega)
   obtain ⟨y, hy⟩ := getI (l := b) (j := j) (by omega)
   have hgx := words_get hx
   have hgy := words_get hy
   refine AW.skip ?_
   refine hK3 _ _ _ ?_; clear hK3
   refine AW.seq fun K4 hK4 => ?_
   refine AW.block ?_
   refine AW.sg [0,1,5,12,13] [] trivial ?_
   refine AW.sd mixed 0 (fun _ => none) [0,1,12,13,24] [] (e2 @hgx @hgy) ?_
   refine AW.cn ?_ ?_
   ·intro hb
    refine AW.sg [4] [] trivial ?_
    rw [← hQl1, ← hQr]
    refine AW.rt trivial ?_
    exact Wk.of_eq (by rw [eqL_ne hx hy hb])
   ·intro hb
    have hxy : x = y := by omega
    subst hxy
    refine AW.skip ?_
    refine hK4 _ _ _ ?_; clear hK4
    refine AW.rg [0,1,12,13] [] trivial ?_
    rw [← hQl1]; change Exists _
    exact ⟨_, eO, j + 1, rfl, eD, eD, (⟨by omega, take_succ_eq hx hy hall⟩)⟩
  ·intro hb
   refine AW.kx [] [] ?_
   rw [← hQl1]
   refine hK2 _ _ _ ?_; clear hK2
   refine AW.sg [4] [] trivial ?_
   rw [← hQr]
   refine AW.rt trivial ?_
   exact Wk.of_eq (by rw [List.take_of_length_le (by omega), List.take_of_length_le (by omega)] at hall; rw [hall]; simp)
def cmpI (x y : Int) : Int := if x < y then -1 else if x > y then 1 else 0
theorem isnan_r (x : Int) : Reads Tryz.prog 139 false [.int .i64 x] (.bool false) := by
 refine Reads.body (rs := [.tmp 2]) Tryz.func139 rfl Tryz.ntmps139 rfl (by simp) ?_
 generalize hQr : retQ _ _ _ = Qr
 refine AW.sg [0] [] trivial ?_
 refine AW.sg [2] [] trivial ?_
 rw [← hQr]
 refine AW.rt trivial ?_
 exact Wk.of_eq (by simp)
theorem cmpi_r (x y : Int) : Reads Tryz.prog 131 false [.int .i64 x, .int .i64 y] (.int .i64 (cmpI x y)) := by
 have h1 := isnan_r x
 have h2 := isnan_r y
 refine Reads.body (rs := [.tmp 4]) Tryz.func131 rfl Tryz.ntmps131 rfl (by simp) ?_
 generalize hQr : retQ _ _ _ = Qr
 refine AW.sg [0,1] [] trivial ?_
 refine AW.so 0 (fun ii => if ii = 1 then some (.reads false (.bool false)) else none) [0,1,5] [] trivial ?_
 repeat with_reducible refine cj ?_ ?_
 all_goals try first | (exact h1) | omega | exact ent (by kernel_rfl)
 refine AW.so 0 (fun ii => if ii = 1 then some (.reads false (.bool false)) else none) [0,1,5,6] [] trivial ?_
 repeat with_reducible refine cj ?_ ?_
 all_goals try first | (exact h2) | omega | exact ent (by kernel_rfl)
 refine AW.seq fun K1 hK1 => ?_
 refine AW.sg [0,1,6,11] [] trivial ?_
 refine AW.cn ?_ ?_
 ·intro hb
  exfalso; simp at hb
 ·intro hb
  refine AW.skip ?_
  refine hK1 _ _ _ ?_; clear hK1
  refine AW.seq fun K2 hK2 => ?_
  refine AW.sg [0,1,13] [] trivial ?_
  refine AW.cn ?_ ?_
  ·intro hb
   exfalso; simp at hb
  ·intro hb
   refine AW.skip ?_
   refine hK2 _ _ _ ?_; clear hK2
   refine AW.seq fun K3 hK3 => ?_
   refine AW.sg [0,1,16] [] trivial ?_
   refine AW.cn ?_ ?_
   ·intro hb
    refine AW.sg [4] [] trivial ?_
    rw [← hQr]
    refine AW.rt trivial ?_
    exact Wk.of_eq (by unfold cmpI; rw [if_pos hb])
   ·intro hb
    refine AW.skip ?_
    refine hK3 _ _ _ ?_; clear hK3
    refine AW.seq fun K4 hK4 => ?_
    refine AW.sg [19] [] trivial ?_
    refine AW.cn ?_ ?_
    ·intro hb
     refine AW.sg [4] [] trivial ?_
     rw [← hQr]
     refine AW.rt trivial ?_
     exact Wk.of_eq (by unfold cmpI; rw [if_neg (by omega), if_pos hb])
    ·intro hb
     refine AW.skip ?_
     refine hK4 _ _ _ ?_; clear hK4
     refine AW.sg [4] [] trivial ?_
     rw [← hQr]
     refine AW.rt trivial ?_
     exact Wk.of_eq (by unfold cmpI; rw [if_neg (by omega), if_neg (by omega)])
theorem cmpS_cnt {a b : List Bool} (hne : a ≠ b) (h : cmpI ((memB a).length : Nat) ((memB b).length : Nat) ≠ 0) : cmpI ((memB a).length : Nat) ((memB b).length : Nat) = cmpS a b := by
 unfold cmpS cntB cmpI at *
 rw [if_neg hne]
 split
 ·rw [if_pos (by omega)]
 ·split
  ·rw [if_neg (by omega), if_pos (by omega)]
  ·rename_i h1 h2; rw [if_neg h1, if_neg h2] at h; exact absurd rfl h
theorem cmpS_eq {a b : List Bool} (hne : a ≠ b) (h : cmpI ((memB a).length : Nat) ((memB b).length : Nat) = 0) : cmpS a b = cmpD a b := by
 unfold cmpS cntB cmpI at *
 rw [if_neg hne]
 split at h
 ·cases h
 ·split at h
  ·cases h
  ·rw [if_neg (by omega), if_neg (by omega)]
theorem cmp_r (a b : List Bool) (ha : a.length ≤ 512) (hl : b.length = a.length) : Reads Tryz.prog 111 false [.agg (rowB a), .agg (rowB b)] (.tup [.int .i64 (cmpS a b), .int .i64 ((0 : Nat) : Int)]) := by
 have hlb : b.length ≤ 512 := by omega
 have hma := bmatching_r a.length b.length (setW a a.length) (setW b b.length) (by have := setB_len ha; omega) (by have := setB_len hlb; omega)
 rw [validS_setW ha, validS_setW hlb, show decide ((a.length : Int) = b.length) = true by simp [hl]] at hma
 have hca := count_b a ha
 have hcb := count_b b hlb
 have heq := eqw_r (setW a a.length) (setW b b.length) (by have := setB_len ha; omega)
 have hci := cmpi_r ((memB a).length : Nat) ((memB b).length : Nat)
 have hlen : (setW b b.length).length = (setW a a.length).length := by rw [setW_len', setW_len', hl]
 have hle := setB_len ha
 have hval : decide (a = b) = (setW a a.length == setW b b.length) := by
  by_cases e : a = b
  ·subst e; simp
  ·rw [decide_eq_false e, eq_comm, beq_eq_false_iff_ne]; exact fun h => e (row_words hl h)
 unfold rowB at *
 generalize hWe : setW a a.length = W at *
 generalize hVe : setW b b.length = V at *
 refine Reads.body (rs := [.tmp 4, .tmp 5]) Tryz.func111 rfl Tryz.ntmps111 rfl (by simp) ?_
 generalize hQr : retQ _ _ _ = Qr
 refine AW.sg [2,3] [2,3] trivial ?_
 refine AW.seq fun K1 hK1 => ?_
 refine AW.so 0 (fun ii => if ii = 2 then some (.reads false (.bool true)) else none) [2,3,13] [2,3] trivial ?_
 repeat with_reducible refine cj ?_ ?_
 all_goals try first | (simpa using hma) | omega | exact ent (by kernel_rfl)
 refine AW.cn ?_ ?_
 ·intro hb
  exfalso; simp at hb
 ·intro hb
  refine AW.skip ?_
  refine hK1 _ _ _ ?_; clear hK1
  refine AW.seq fun K2 hK2 => ?_
  refine AW.so 0 (fun ii => if ii = 4 then some (.reads false (.bool (W == V))) else none) [2,3,18] [2,3] trivial ?_
  repeat with_reducible refine cj ?_ ?_
  all_goals try first | (exact heq) | omega | exact ent (by kernel_rfl)
  refine AW.cn ?_ ?_
  ·intro hb
   refine AW.sg [4,5] [] trivial ?_
   rw [← hQr]
   refine AW.rt trivial ?_
   exact Wk.of_eq (by unfold cmpS; rw [if_pos (of_decide_eq_true (by rw [hval]; simpa using hb))]; rfl)
  ·intro hb
   have hab : a ≠ b := fun e => by have := hval.symm; rw [hb] at this; simp [e] at this
   have hWV : W ≠ V := fun e => by simp [e] at hb
   refine AW.skip ?_
   refine hK2 _ _ _ ?_; clear hK2
   refine AW.seq fun K3 hK3 => ?_
   refine AW.sd mixed 0 (fun ii => if ii = 1 then some (.reads false (.int .i64 ((memB a).length : Nat))) else if ii = 3 then some (.reads false (.int .i64 ((memB b).length : Nat))) else if ii = 4 then some (.reads false (.int .i64 (cmpI ((memB a).length : Nat) ((memB b).length : Nat)))) else none) [2,3,6] [2,3] trivial ?_
   repeat with_reducible refine cj ?_ ?_
   all_goals try first | (first | exact hca | exact hcb | exact hci | exact ⟨hca, hcb, hci⟩) | omega | exact chk (by kernel_rfl) | exact ent (by kernel_rfl)
   refine AW.sg [2,3,6,25] [2,3] trivial ?_
   refine AW.cn ?_ ?_
   ·intro hb
    refine AW.sg [4,5] [] trivial ?_
    rw [← hQr]
    refine AW.rt trivial ?_
    exact Wk.of_eq (by rw [cmpS_cnt hab hb]; rfl)
   ·intro hb
    refine AW.skip ?_
    refine hK3 _ _ _ ?_; clear hK3
    refine AW.seq fun K4 hK4 => ?_
    refine AW.sg [3,28,29,30] [3] trivial ?_
    refine AW.block ?_
    refine AW.loopE (fun mm ee ss kk => ∃ (j g v : Nat), W.length - j = mm ∧ ee = [(3, .ptr ⟨3, g, none⟩ 0 0), (28, .rsl 1 (words W)), (29, .int .i64 W.length), (30, .int .i64 (j : Nat))] ∧ ss = [(3, some ⟨g, v, 2, [[.int .i64 b.length, .rsl 1 (words V)]]⟩)] ∧ (j ≤ W.length ∧ W.take j = V.take j)) ?_ ?_
    ·exact ⟨_, 0, _, _, rfl, eD, eD, eT⟩
    rintro mm ee ss kk ⟨j, g, v, rfl, rfl, rfl, hI⟩
    generalize hQl1 : thenQ _ _ = Ql1
    obtain ⟨hj, hall⟩ := hI
    refine AW.sg [3,28,29,30,31] [3] trivial ?_
    refine AW.seq fun K5 hK5 => ?_
    refine AW.cn ?_ ?_
    ·intro hb
     obtain ⟨x, hx⟩ := getI (l := W) (j := j) (by omega)
     obtain ⟨y, hy⟩ := getI (l := V) (j := j) (by omega)
     have hgx := words_get hx
     have hgy := words_get hy
     have hx0 : 0 ≤ x ∧ x < 18446744073709551616 := okW_mem (by rw [← hWe]; exact setW_ok a) (List.mem_of_getElem? hx)
     have hy0 : 0 ≤ y ∧ y < 18446744073709551616 := okW_mem (by rw [← hVe]; exact setW_ok b) (List.mem_of_getElem? hy)
     have hxz := bXor_zero hx0 hy0
     have hcat := cmp_at hl hWe hVe hx hy hall
     refine AW.skip ?_
     refine hK5 _ _ _ ?_; clear hK5
     refine AW.seq fun K6 hK6 => ?_
     refine AW.block ?_
     refine AW.sg [3,7,8,28,29,30] [3] (@hgx) ?_
     refine AW.sg [3,8,9,28,29,30] [3] (@hgy) ?_
     refine AW.sg [3,8,9,28,29,30,43] [3] trivial ?_
     refine AW.cn ?_ ?_
     ·intro hb
      have hne : x ≠ y := fun e => hb (hxz.2 e)
      have hcd := hcat hne
      refine AW.seq fun K7 hK7 => ?_
      refine AW.sg [50] [] trivial ?_
      refine AW.cn ?_ ?_
      ·intro hb
       refine AW.sg [4,5] [] trivial ?_
       rw [← hQl1, ← hQr]
       refine AW.rt trivial ?_
       exact Wk.of_eq (by rw [cmpS_eq hab (by assumption), hcd, if_neg hb]; rfl)
      ·intro hb
       refine AW.skip ?_
       refine hK7 _ _ _ ?_; clear hK7
       refine AW.sg [4,5] [] trivial ?_
       rw [← hQl1, ← hQr]
       refine AW.rt trivial ?_
       exact Wk.of_eq (by rw [cmpS_eq hab (by assumption), hcd, if_pos (by omega)]; rfl)
     ·intro hb
      have hxy : x = y := hxz.1 (by omega)
      subst hxy
      refine AW.skip ?_
      refine hK6 _ _ _ ?_; clear hK6
      refine AW.rg [3,28,29,30] [3] trivial ?_
      rw [← hQl1]; change Exists _
      exact ⟨_, eO, j + 1, _, _, rfl, eD, eD, (⟨by omega, take_succ_eq hx hy hall⟩)⟩
    ·intro hb
     refine AW.kx [] [] ?_
     rw [← hQl1]
     refine hK4 _ _ _ ?_; clear hK4
     refine AW.sg [4,5] [] trivial ?_
     rw [← hQr]
     refine AW.rt trivial ?_
     exact absurd (by rw [List.take_of_length_le (by omega), List.take_of_length_le (by omega)] at hall; exact hall) hWV
theorem cmpf_r (a b : List Bool) (ha : a.length ≤ 512) (hl : b.length = a.length) : Reads Tryz.prog 110 false [.agg (rowB a), .agg (rowB b)] (.int .i64 (cmpS a b)) := by
 have h := cmp_r a b ha hl
 unfold rowB at *
 refine Reads.body (rs := [.tmp 4]) Tryz.func110 rfl Tryz.ntmps110 rfl (by simp) ?_
 generalize hQr : retQ _ _ _ = Qr
 refine AW.sg [2,3] [2,3] trivial ?_
 refine AW.so 0 (fun ii => if ii = 2 then some (.reads false (.tup [.int .i64 (cmpS a b), .int .i64 ((0 : Nat) : Int)])) else none) [5] [] trivial ?_
 repeat with_reducible refine cj ?_ ?_
 all_goals try first | (exact h) | omega | exact ent (by kernel_rfl)
 refine AW.sg [4] [] trivial ?_
 rw [← hQr]
 refine AW.rt trivial ?_
 exact Wk.refl _
end Go.Proofs.B

/- A root that a cell names is cut to what the cell sees; an owned inner slice becomes a root that the cell names. -/
namespace Go.AM

end Go.AM

namespace Go.Proofs.B
open Go.AM Go
set_option maxRecDepth 100000
set_option maxHeartbeats 4000000
theorem with1_r (w b : Int) : Reads Tryz.prog 124 false [.int .u64 w, .int .u64 b] (.int .u64 (bOr .u64 w b)) := by
 refine Reads.body (rs := [.tmp 4]) Tryz.func124 rfl Tryz.ntmps124 rfl (by simp) ?_
 generalize hQr : retQ _ _ _ = Qr
 refine AW.sg [0,1] [] trivial ?_
 refine AW.sg [4] [] trivial ?_
 rw [← hQr]
 refine AW.rt trivial ?_
 exact Wk.of_eq rfl
theorem changed_u (b : List Bool) (hb : b.length ≤ 512) (i : Nat) (hi : i < b.length) : Upd Tryz.prog 123 [] [.agg (rowB b), .int .i64 i, .fn 124 []] (fun k => .tup [.agg [.int .i64 b.length, .sl ⟨0, k, none⟩ 0 (setW b b.length).length none], .int .i64 ((0 : Nat) : Int)])
  (fun k => [(0, some ⟨k, k, 1, words (setW (b.set i true) b.length)⟩)]) := by
 have hwl := setW_len' b
 have hwn := wordsN_rng (n := (b.length : Int)) (by omega)
 have hv := Reads.flat (bvalid_r b.length (setW b b.length) (by omega)) rfl
 have hin := Reads.flat (inside_r b.length (words (setW b b.length)) i) rfl
 rw [validS_setW hb] at hv
 rw [decide_eq_true (by omega : (0 : Int) ≤ i), decide_eq_true (by omega : (i : Int) < b.length)] at hin
 have hcp := copied_u b.length (setW b b.length) (by omega)
 have hd := div64_rng (i := (i : Int)) (n := b.length) (by omega) (by omega)
 have hgw := words_getD (l := setW b b.length) (i := ((i : Int).tdiv 64).toNat) (by omega)
 have hsb := setBit_setW b (i := i) (by omega)
 have hw1 := with1_r ((setW b b.length).getD ((i : Int).tdiv 64).toNat 0) (bShl .u64 1 ((i : Int).tmod 64))
 unfold setBit at hsb
 unfold rowB
 refine Upd.of_body (rs := [.cell 6 41, .tmp 7]) Tryz.func123 rfl Tryz.ntmps123 rfl (by simp) ?_
 intro k0 k hk0 hk1
 generalize hQr : retQ _ _ _ = Qr
 refine AW.so 100 (fun _ => none) [1,2,3,6] [103,106] trivial ?_
 refine AW.seq fun K1 hK1 => ?_
 refine AW.block ?_
 refine AW.so 100 (fun ii => if ii = 1 then some (.reads true (.bool true)) else none) [1,2,3,6,9] [103,106] trivial ?_
 repeat with_reducible refine cj ?_ ?_
 all_goals try first | (exact hv) | omega | exact ent (by kernel_rfl)
 refine AW.cn ?_ ?_
 ·intro hb
  simp at hb
 ·intro hb
  refine AW.so 100 (fun ii => if ii = 2 then some (.reads true (.bool true)) else none) [1,2,3,6,14] [103,106] trivial ?_
  repeat with_reducible refine cj ?_ ?_
  all_goals try first | (exact hin) | omega | exact ent (by kernel_rfl)
  refine AW.cn ?_ ?_
  ·intro hb
   simp at hb
  ·intro hb
   refine AW.skip ?_
   refine hK1 _ _ _ ?_; clear hK1
   refine AW.so 100 (fun ii => if ii = 1 then some (.upd [] (fun kk => [(0, some ⟨kk, kk, 1, words (setW b b.length)⟩)]) (fun kk => .agg [.int .i64 b.length, .sl ⟨0, kk, none⟩ 0 (setW b b.length).length none])) else none) [1,2,6,8] [106,108,121] trivial ?_
   repeat with_reducible refine cj ?_ ?_
   all_goals try first | (exact hcp) | omega | exact ent (by kernel_rfl)
   refine AW.sd mixed 100 (fun ii => if ii = 14 then some (.reads false (.int .u64 (bOr .u64 ((setW b b.length).getD ((i : Int).tdiv 64).toNat 0) (bShl .u64 1 ((i : Int).tmod 64))))) else none) [6,8] [106,108,121] (e2 @hgw @hsb) ?_
   repeat with_reducible refine cj ?_ ?_
   all_goals try first | (first | exact Reads.flat hw1 rfl | exact hw1) | omega | exact chk (by kernel_rfl) | exact ent (by kernel_rfl)
   refine AW.so 100 (fun _ => none) [6,7] [106,121] trivial ?_
   rw [← hQr]
   refine AW.rt trivial ?_
   refine ⟨[(121, 0, true)], ?_⟩
   simp only [go_sem, reduceIte, zE, renC_words]
   rfl
theorem with_u (b : List Bool) (hb : b.length ≤ 512) (i : Nat) (hi : i < b.length) : Upd Tryz.prog 106 [] [.agg (rowB b), .int .i64 i] (fun k => .tup [.agg [.int .i64 b.length, .sl ⟨0, k, none⟩ 0 (setW b b.length).length none], .int .i64 ((0 : Nat) : Int)])
  (fun k => [(0, some ⟨k, k, 1, words (setW (b.set i true) b.length)⟩)]) := by
 have h := changed_u b hb i hi
 unfold rowB at *
 refine Upd.of_body (rs := [.cell 4 41, .tmp 5]) Tryz.func106 rfl Tryz.ntmps106 rfl (by simp) ?_
 intro k0 k hk0 hk1
 generalize hQr : retQ _ _ _ = Qr
 refine AW.so 100 (fun _ => none) [1,2,4] [102,104] trivial ?_
 refine AW.so 100 (fun ii => if ii = 2 then some (.upd [] (fun kk => [(0, some ⟨kk, kk, 1, words (setW (b.set i true) b.length)⟩)]) (fun kk => .tup [.agg [.int .i64 b.length, .sl ⟨0, kk, none⟩ 0 (setW b b.length).length none], .int .i64 ((0 : Nat) : Int)])) else none) [4,5] [104,108] trivial ?_
 repeat with_reducible refine cj ?_ ?_
 all_goals try first | (exact h) | omega | exact ent (by kernel_rfl)
 rw [← hQr]
 refine AW.rt trivial ?_
 refine ⟨[(108, 0, true)], ?_⟩
 simp only [go_sem, reduceIte, zE, renC_words]
theorem with_r (b : List Bool) (hb : b.length ≤ 512) (i : Nat) (hi : i < b.length) : Reads Tryz.prog 106 true [.agg (rowB b), .int .i64 i] (.tup [.agg (rowB (b.set i true)), .int .i64 ((0 : Nat) : Int)]) := by
 refine Upd.reads (with_u b hb i hi) (Wk.of_eq ?_)
 have hrow : rowB (b.set i true) = [.int .i64 b.length, .rsl 1 (words (setW (b.set i true) b.length))] := by simp [rowB]
 have hl : (setW (b.set i true) b.length).length = (setW b b.length).length := by rw [← setBit_setW b (i := i) hi, setBit_len]
 rw [hrow]
 simp only [go_sem, reduceIte, zE]
 rw [List.take_of_length_le (by rw [hl]; exact Nat.le_refl _)]
end Go.Proofs.B

