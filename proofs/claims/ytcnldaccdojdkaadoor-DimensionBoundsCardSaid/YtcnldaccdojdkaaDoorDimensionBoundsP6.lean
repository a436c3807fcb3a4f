/- Lemmas and contracts, part 6: an abstract machine over the model, and the functions that the statement reaches. -/
import Derived.Test.YtcnldaccdojdkaaDoorDimensionBoundsP5
import Derived.Carry
import Derived.RowKit
import Derived.OpenShut
import Derived.Below
import Derived.ChangeSame
import Derived.JoinedOf
import Derived.Handed
import Derived.MakeChecks
import Derived.LaidMore
import Derived.Test.YtcnldaccdojdkaaDoorRows
set_option linter.unusedVariables false
set_option linter.unusedSimpArgs false
open Nat renaming reduceAdd → zA, reduceMul → zM, reduceEqDiff → zE, reduceLT → zL, reduceLeDiff → zD, reduceSub → zS, reducePow → zP, reduceBEq → zB
open Int renaming reduceToNat → zI
open List renaming reduceReplicate → zR
namespace Go.Proofs.D
open Go.AM Go
set_option maxRecDepth 100000
set_option maxHeartbeats 4000000
theorem bounds_l (rs : List USet) (hl : longR rs) (a : Nat) (ha8 : a ≤ 255) (hg : (decide ((7 : Int) < rs.length) || greatB rs) = true) : Reads Tryd.prog 7 false [relV rs, .int .u8 (a : Nat)] (.bool true) := by
 have ha := awake_r
 have hf := great_r rs hl
 have hrl : (rs.map rowV).length = rs.length := by simp
 have hl1 := hl.1
 unfold relV at *
 refine Reads.body (rs := [.tmp 4]) Tryd.func7 rfl Tryd.ntmps7 rfl (by simp) ?_
 generalize hQr : retQ _ _ _ = Qr
 -- block 1
 refine AW.sg [1,2] [2] (@hrl) ?_
 refine AW.seq fun K1 hK1 => ?_
 refine AW.so 0 (fun ii => if ii = 0 then some (.reads false (.bool true)) else none) [1,2,21] [2] (@hrl) ?_
 repeat with_reducible refine cj ?_ ?_
 all_goals try first | (exact ha) | omega | exact ent (by kernel_rfl)
 refine AW.cn ?_ ?_
 ·intro hb
  exfalso; simp at hb
 ·intro hb
  refine AW.skip ?_
  refine hK1 _ _ _ ?_; clear hK1
  refine AW.seq fun K2 hK2 => ?_
  refine AW.so 0 (fun ii => if ii = 6 then some (.reads false (.bool (greatB rs))) else if ii = 10 then some (.reads false (.bool true)) else none) [1,2,34] [2] (e2 @hrl @hg) ?_
  repeat with_reducible refine cj ?_ ?_
  all_goals try first | (first | exact hf | exact fun _ => hf | (intro hh; exact ⟨hh, hf⟩)) | (intros; (repeat' apply And.intro) <;> first | assumption | (first | exact hf | exact fun _ => hf | (intro hh; exact ⟨hh, hf⟩))) | omega | exact ent (by kernel_rfl) | (intro hgd; exact absurd hgd (by decide)) | rfl | (simp only [go_sem, reduceIte, reduceCtorEq, zA, zM, zE, zL, zD, zS, zP, zB, zI, zR, hrl, hg]; done) | (intro _hgd; simp_all [go_sem]; done)
  refine AW.cn ?_ ?_
  ·intro hb
   refine AW.sg [4] [] (@hrl) ?_
   -- ret 2
   rw [← hQr]
   refine AW.rt (@hrl) ?_
   exact Wk.refl _
  ·intro hb
   exfalso; simp at hb
theorem bounds_b (rs : List USet) (hl : longR rs) (a : Nat) (ha8 : a ≤ 255) (hg : (decide ((7 : Int) < rs.length) || greatB rs) = false) (hv2 : Reads Tryd.prog 15 false [relV rs] (.bool false)) : Reads Tryd.prog 7 false [relV rs, .int .u8 (a : Nat)] (.bool true) := by
 have ha := awake_r
 have hf := great_r rs hl
 have hrl : (rs.map rowV).length = rs.length := by simp
 have hl1 := hl.1
 unfold relV at *
 refine Reads.body (rs := [.tmp 4]) Tryd.func7 rfl Tryd.ntmps7 rfl (by simp) ?_
 generalize hQr : retQ _ _ _ = Qr
 -- block 2
 refine AW.sg [1,2] [2] (@hrl) ?_
 refine AW.seq fun K1 hK1 => ?_
 refine AW.so 0 (fun ii => if ii = 0 then some (.reads false (.bool true)) else none) [1,2,21] [2] (@hrl) ?_
 repeat with_reducible refine cj ?_ ?_
 all_goals try first | (exact ha) | omega | exact ent (by kernel_rfl)
 refine AW.cn ?_ ?_
 ·intro hb
  exfalso; simp at hb
 ·intro hb
  refine AW.skip ?_
  refine hK1 _ _ _ ?_; clear hK1
  refine AW.seq fun K2 hK2 => ?_
  refine AW.so 0 (fun ii => if ii = 6 then some (.reads false (.bool (greatB rs))) else if ii = 10 then some (.reads false (.bool false)) else none) [1,2,34] [2] (e2 @hrl @hg) ?_
  repeat with_reducible refine cj ?_ ?_
  all_goals try first | (first | exact hf | exact fun _ => hf | (intro hh; exact ⟨hh, hf⟩) | exact hv2 | exact fun _ => hv2 | (intro hh; exact ⟨hh, hv2⟩)) | (intros; (repeat' apply And.intro) <;> first | assumption | (first | exact hf | exact fun _ => hf | (intro hh; exact ⟨hh, hf⟩) | exact hv2 | exact fun _ => hv2 | (intro hh; exact ⟨hh, hv2⟩))) | omega | exact ent (by kernel_rfl) | (intro hgd; exact absurd hgd (by decide)) | rfl | (simp only [go_sem, reduceIte, reduceCtorEq, zA, zM, zE, zL, zD, zS, zP, zB, zI, zR, hrl, hg]; done) | (intro _hgd; simp_all [go_sem]; done)
  refine AW.cn ?_ ?_
  ·intro hb
   refine AW.sg [4] [] (@hrl) ?_
   -- ret 2
   rw [← hQr]
   refine AW.rt (@hrl) ?_
   exact Wk.refl _
  ·intro hb
   exfalso; simp at hb
theorem bounds_g (n : Nat) (t : List (List Bool)) (hs : Sq n t) (hn : n ≤ 7) (hp : poB n t = true) (a : Nat) (ha8 : a ≤ 255) (hg : (decide ((7 : Int) < n) || greatB (t.map SB)) = false) : Reads Tryd.prog 7 false [relB t, .int .u8 (a : Nat)] (.bool true) := by
 have hpo := (poB_iff hs).1 hp
 have ha := awake_r
 have hf := great_r (t.map SB) (longR_SB hs (by omega))
 rw [← relB_SB] at hf
 have hv2 := poset_g n t hs (by omega)
 rw [hp] at hv2
 have hd := dim_g n t hs (by omega) hp
 have hdq := dualT_sq n t
 have hdp := (poB_iff hdq).2 (dualT_po hs hpo)
 have hd2 := dim_g n _ hdq (by omega) hdp
 rw [dim_dual hs hpo (by omega)] at hd2
 have hmk := rmake_r n _ hdq (by omega)
 have hls := fun i j hi hj => less_r n t hs (by omega) i j hi hj
 obtain ⟨hh4, hh3, hh2⟩ := dim_half hs hpo hn
 have hdpos := dim_pos hs hpo (by omega)
 have hd0 : n = 0 → (dealtT n t).length = 1 := fun e => by subst e; exact dim_zero hs hpo
 have hdel := fun k (hk : k < n) => dim_del hs hpo (by omega : n ≤ 8) hk
 have hdl := fun k (hk : k < n) => dim_g (n - 1) (delT n k t) (delT_sq n k t) (by omega) ((poB_iff (delT_sq n k t)).2 (delT_po hs hpo hk))
 have hml := fun k => rmake_r (n - 1) (delT n k t) (delT_sq n k t) (by omega)
 have hsall := fun k (hk : k < n) => skT_all t hk
 have htl := tabR_len t
 have hlen := hs.len
 have hrd := rowsR_len (dualT n t)
 rw [hdq.len] at hrd
 have hwa : IntKind.i64.wrap (a : Int) = a := by simp [IntKind.wrap, IntKind.signed, IntKind.bits]; omega
 have hqu : (n : Int).tdiv 2 = ((n / 2 : Nat) : Int) := rfl
 have hre : (a : Int).tmod (n : Int) = ((a % n : Nat) : Int) := rfl
 have hkn : n ≠ 0 → a % n < n := fun h => Nat.mod_lt _ (by omega)
 obtain ⟨k, hk⟩ : ∃ k, k = a % n := ⟨_, rfl⟩
 rw [← hk] at hre hkn
 clear hk
 obtain ⟨f, hfe⟩ : ∃ f : Nat → Nat → Bool, f = fun i j => atT t j i := ⟨_, rfl⟩
 have hfd : ∀ i j, atT t j i = f i j := fun i j => by rw [hfe]
 have hft : tabF n f = dualT n t := by rw [hfe]; rfl
 clear hfe
 generalize hDT : dualT n t = U at *
 clear hDT
 generalize hD : (dealtT n t).length = D at *
 clear hD
 unfold relB at *
 refine Reads.body (rs := [.tmp 4]) Tryd.func7 rfl Tryd.ntmps7 rfl (by simp) ?_
 generalize hQr : retQ _ _ _ = Qr
 -- block 3
 refine AW.sg [1,2] [2] (e2 @htl @hlen) ?_
 refine AW.seq fun K1 hK1 => ?_
 refine AW.so 0 (fun ii => if ii = 0 then some (.reads false (.bool true)) else none) [1,2,21] [2] (e2 @htl @hlen) ?_
 repeat with_reducible refine cj ?_ ?_
 all_goals try first | (exact ha) | omega | exact ent (by kernel_rfl)
 refine AW.cn ?_ ?_
 ·intro hb
  exfalso; simp at hb
 ·intro hb
  refine AW.skip ?_
  refine hK1 _ _ _ ?_; clear hK1
  refine AW.seq fun K2 hK2 => ?_
  refine AW.so 0 (fun ii => if ii = 6 then some (.reads false (.bool (greatB (t.map SB)))) else if ii = 10 then some (.reads false (.bool true)) else none) [1,2,34] [2] (e3 @htl @hlen @hg) ?_
  repeat with_reducible refine cj ?_ ?_
  all_goals try first | (first | exact hf | exact fun _ => hf | (intro hh; exact ⟨hh, hf⟩) | exact hv2 | exact fun _ => hv2 | (intro hh; exact ⟨hh, hv2⟩)) | (intros; (repeat' apply And.intro) <;> first | assumption | (first | exact hf | exact fun _ => hf | (intro hh; exact ⟨hh, hf⟩) | exact hv2 | exact fun _ => hv2 | (intro hh; exact ⟨hh, hv2⟩))) | omega | exact ent (by kernel_rfl) | (intro hgd; exact absurd hgd (by decide)) | rfl | (simp only [go_sem, reduceIte, reduceCtorEq, zA, zM, zE, zL, zD, zS, zP, zB, zI, zR, htl, hlen, hg]; done) | (intro _hgd; simp_all [go_sem]; done)
  refine AW.cn ?_ ?_
  ·intro hb
   exfalso; simp at hb
  ·intro hb
   refine AW.skip ?_
   refine hK2 _ _ _ ?_; clear hK2
   refine AW.sg [1,2,5] [2] (e2 @htl @hlen) ?_
   refine AW.sd mixed 0 (fun _ => none) [1,2,5,6,7] [2,39,41] (e2 @htl @hlen) ?_
   refine AW.nils_own (pid := 39) 1 (rowsO (filT n f 0)) (by simp only [go_sem, reduceIte, zE]; rfl) (show (1 : Nat) ≠ mapSz by decide) (by simp [rowsO, filT_len]) ?_ ?_
   ·intro i hi
    simp only [List.length_replicate] at hi
    have h1 : (List.replicate n [AV.nilsl]).getD i [] = [.nilsl] := by simp [List.getD_eq_getElem?_getD, hi]
    rw [h1, rowsO_get (by rw [filT_len]; exact hi)]
    refine ⟨rfl, fun j => ?_⟩
    cases j with
    | zero => exact .inr ⟨rfl, by rw [filT_zero]; simp [rowT, List.getD_eq_getElem?_getD, hi, bools]⟩
    | succ j => exact .inl rfl
   refine AW.keep [1, 2, 5, 6, 7] [2, 39, 41] ?_
   simp only [go_sem, reduceIte, zE]
   refine AW.seq fun K3 hK3 => ?_
   refine AW.sg [1,2,5,6,7,42,43] [2,39,41] (e2 @htl @hlen) ?_
   refine AW.block ?_
   refine AW.loopE (fun mm ee ss kk => ∃ (i g2 v2 g v g7 v7 : Nat) (kc : Option Nat), n - i = mm ∧ ee = [(1, .int .u8 (a : Nat)), (2, .ptr ⟨2, g2, none⟩ 0 0), (5, .int .i64 n), (6, .sl ⟨39, g, none⟩ 0 n none), (7, .sl ⟨41, g7, none⟩ 0 0 kc), (42, .int .i64 n), (43, .int .i64 (i : Nat))] ∧ ss = [(2, some ⟨g2, v2, 1, [[.rsl 2 (tabR t)]]⟩), (39, some ⟨g, v, 1, rowsO (filT n f i)⟩), (41, some ⟨g7, v7, 1, []⟩)] ∧ (i ≤ n)) ?_ ?_
   -- init 1
   ·exact ⟨_, 0, _, _, _, _, _, _, _, rfl, eD, eD, eT⟩
   rintro mm ee ss kk ⟨i, g2, v2, g, v, g7, v7, kc, rfl, rfl, rfl, hI⟩
   generalize hQl1 : thenQ _ _ = Ql1
   refine AW.sg [1,2,5,6,7,42,43,44] [2,39,41] (e2 @htl @hlen) ?_
   refine AW.seq fun K4 hK4 => ?_
   refine AW.cn ?_ ?_
   ·intro hb
    have hin : i < n := by omega
    have hrl := rowsO_len (filT n f i)
    rw [filT_len] at hrl
    have hrg := rowsO_get (t := filT n f i) (i := i) (by rw [filT_len]; omega)
    have hro := rowsO_set (filT n f i) i (List.replicate n false)
    rw [← filP_zero] at hro
    have hz : List.replicate n [AV.bool false] = bools (List.replicate n false) := by simp [bools]
    have hcl : ∀ a : List AV, ((rowsO (filT n f i)).set i a).getD i [] = a := fun a => Go.AM.getD_set_eq (by omega) _ _
    have hsl : ∀ a : List AV, ((rowsO (filT n f i)).set i a).length = n := fun a => by rw [List.length_set]; exact hrl
    have hss : ∀ a b : List AV, ((rowsO (filT n f i)).set i a).set i b = (rowsO (filT n f i)).set i b := fun a b => List.set_set ..
    refine AW.skip ?_
    refine hK4 _ _ _ ?_; clear hK4
    refine AW.seq fun K5 hK5 => ?_
    refine AW.block ?_
    refine AW.sg [1,2,5,6,7,8,42,43] [2,39,41] (e2 @htl @hlen) ?_
    refine AW.sg [1,2,5,6,7,8,42,43] [2,39,41,49] (e4 @htl @hlen @hrl @hrg) ?_
    refine AW.adoptK 39 i 0 49 ?_
    simp only [go_sem, reduceIte, zE, hcl, hsl, hss, hz, hro]
    refine ⟨noOsl_bools _, ?_⟩
    refine AW.keep [1, 2, 5, 6, 7, 8, 42, 43] [2, 39, 41] ?_
    simp only [go_sem, reduceIte, zE]
    refine AW.sg [1,2,5,6,7,8,42,43,51,52] [2,39,41] (e2 @htl @hlen) ?_
    refine AW.block ?_
    refine AW.loopE (fun mm ee ss kk => ∃ (j g2 v2 g v g7 v7 : Nat), n - j = mm ∧ ee = [(1, .int .u8 (a : Nat)), (2, .ptr ⟨2, g2, none⟩ 0 0), (5, .int .i64 n), (6, .sl ⟨39, g, none⟩ 0 n none), (7, .sl ⟨41, g7, none⟩ 0 0 kc), (8, .int .i64 (i : Nat)), (42, .int .i64 n), (43, .int .i64 (i : Nat)), (51, .int .i64 n), (52, .int .i64 (j : Nat))] ∧ ss = [(2, some ⟨g2, v2, 1, [[.rsl 2 (tabR t)]]⟩), (39, some ⟨g, v, 1, rowsO (filP n f i j)⟩), (41, some ⟨g7, v7, 1, []⟩)] ∧ (j ≤ n)) ?_ ?_
    -- init 2
    ·exact ⟨_, 0, _, _, _, _, _, _, rfl, eD, eD, eT⟩
    rintro mm ee ss kk ⟨j, g2, v2, g, v, g7, v7, rfl, rfl, rfl, hI⟩
    generalize hQl2 : thenQ _ _ = Ql2
    refine AW.sg [1,2,5,6,7,8,42,43,51,52,53] [2,39,41] (e2 @htl @hlen) ?_
    refine AW.seq fun K6 hK6 => ?_
    refine AW.cn ?_ ?_
    ·intro hb
     have hjn : j < n := by omega
     have hrl := rowsO_len (filP n f i j)
     rw [filP_len] at hrl
     have hrg := rowsO_get (t := filP n f i j) (i := i) (by rw [filP_len]; omega)
     rw [filP_row hin] at hrg
     have hbl := bools_len (filR n (f i) j)
     rw [filR_len] at hbl
     have hro := rowsO_set (filP n f i j) i ((filR n (f i) j).set j (f i j))
     rw [filP_step hjn] at hro
     have hle := hls j i hjn hin
     rw [hfd] at hle
     refine AW.skip ?_
     refine hK6 _ _ _ ?_; clear hK6
     refine AW.seq fun K7 hK7 => ?_
     refine AW.block ?_
     refine AW.sg [1,2,5,6,7,8,9,42,43,51,52] [2,39,41] (e2 @htl @hlen) ?_
     refine AW.rd mixed 0 (fun ii => if ii = 8 then some (.reads false (.bool (f i j))) else none) [1,2,5,6,7,8,42,43,51,52] [2,39,41] (e3 @htl @hlen (e5 @hrl @hrg @hbl @bset @hro)) ?_
     repeat with_reducible refine cj ?_ ?_
     all_goals try first | (exact hle) | omega | exact chk (by kernel_rfl) | exact ent (by kernel_rfl)
     refine hK7 _ _ _ ?_; clear hK7
     refine AW.rg [1,2,5,6,7,8,42,43,51,52] [2,39,41] (e2 @htl @hlen) ?_
     -- again 2
     rw [← hQl2]; change Exists _
     exact ⟨_, eO, j + 1, _, _, _, _, _, _, rfl, eD, eD, eT⟩
    ·intro hb
     have hjn : j = n := by omega
     rw [hjn, filP_next hin]
     -- exit 2
     refine AW.kx [1,2,5,6,7,42,43] [2,39,41,49] ?_
     rw [← hQl2]
     refine hK5 _ _ _ ?_; clear hK5
     refine AW.rg [1,2,5,6,7,42,43] [2,39,41] (e2 @htl @hlen) ?_
     -- again 1
     rw [← hQl1]; change Exists _
     exact ⟨_, eO, i + 1, _, _, _, _, _, _, _, rfl, eD, eD, eT⟩
   ·intro hb
    have hin : i = n := by omega
    rw [hin, filT_all, hft]
    have htk : (rowsO U).take n = rowsO U := List.take_of_length_le (by rw [rowsO_len, hdq.len]; omega)
    refine AW.freezeK [39] [6] [1, 2, 5, 7] [2, 41] ?_
    simp only [go_sem, reduceIte, zE, htk, vwc_rowsO]
    -- exit 0
    refine AW.kx [1,2,5,6,7] [2,39,41,49] ?_
    rw [← hQl1]
    refine hK3 _ _ _ ?_; clear hK3
    refine AW.so 0 (fun ii => if ii = 1 then some (.reads false (.tup [.int .i64 (D : Nat), .int .i64 ((0 : Nat) : Int)])) else none) [1,2,5,6,7,10,11] [2,41] (e2 @htl @hlen) ?_
    repeat with_reducible refine cj ?_ ?_
    all_goals try first | (exact hd) | omega | exact ent (by kernel_rfl)
    refine AW.so 0 (fun ii => if ii = 1 then some (.reads false (.agg [.rsl 2 (tabR U)])) else if ii = 2 then some (.reads false (.tup [.int .i64 (D : Nat), .int .i64 ((0 : Nat) : Int)])) else none) [1,2,5,7,10,11,12,13] [2,41] (e2 @htl @hlen) ?_
    repeat with_reducible refine cj ?_ ?_
    all_goals try first | (first | exact hmk | exact hd2) | omega | exact ent (by kernel_rfl)
    refine AW.seq fun K8 hK8 => ?_
    refine AW.sg [1,2,5,7,10,106] [2,41] (e3 @htl @hlen @hqu) ?_
    repeat with_reducible refine cj ?_ ?_
    all_goals try first | omega | (intros; (repeat' apply And.intro) <;> first | assumption | omega | decide) | (intro hgd; exact absurd hgd (by decide)) | rfl | (simp only [go_sem, reduceIte, reduceCtorEq, zA, zM, zE, zL, zD, zS, zP, zB, zI, zR, htl, hlen, hqu]; done) | (intro _hgd; simp_all [go_sem]; done)
    refine AW.cn ?_ ?_
    ·intro hb
     exfalso; first | omega | (simp at hb; omega)
    ·intro hb
     refine AW.skip ?_
     refine hK8 _ _ _ ?_; clear hK8
     refine AW.seq fun K9 hK9 => ?_
     refine AW.sg [1,2,5,7,10,108] [2,41] (e2 @htl @hlen) ?_
     refine AW.cn ?_ ?_
     ·intro hb
      have hn0 : n = 0 := by omega
      have hD1 := hd0 hn0
      refine AW.sg [4] [2] (e2 @htl @hlen) ?_
      -- ret 4
      rw [← hQr]
      refine AW.rt (e2 @htl @hlen) ?_
      exact Wk.of_eq (by rw [hD1]; rfl)
     ·intro hb
      have hn0 : n ≠ 0 := by omega
      have hk := hkn hn0
      have hdk := hdel k hk
      have hdlk := hdl k hk
      have hmlk := hml k
      have hsk := hsall k hk
      generalize hH : (dealtT (n - 1) (delT n k t)).length = H at *
      refine AW.skip ?_
      refine hK9 _ _ _ ?_; clear hK9
      refine AW.sg [2,5,7,10,14] [2,41] (e4 @htl @hlen @hwa @hre) ?_
      refine AW.seq fun K10 hK10 => ?_
      refine AW.sg [2,5,7,10,14,115,116] [2,41] (e2 @htl @hlen) ?_
      refine AW.block ?_
      refine AW.loopE (fun mm ee ss kk => ∃ (i g2 v2 g7 v7 : Nat) (kc : Option Nat), n - i = mm ∧ ee = [(2, .ptr ⟨2, g2, none⟩ 0 0), (5, .int .i64 n), (7, .sl ⟨41, g7, none⟩ 0 (skT n t k i).length kc), (10, .int .i64 D), (14, .int .i64 k), (115, .int .i64 n), (116, .int .i64 (i : Nat))] ∧ ss = [(2, some ⟨g2, v2, 1, [[.rsl 2 (tabR t)]]⟩), (41, some ⟨g7, v7, 1, rowsR (skT n t k i)⟩)] ∧ (i ≤ n)) ?_ ?_
      -- init 3
      ·refine ⟨_, 0, ?_, ?_, ?_, ?_, ?_, rfl, ?henv, ?hstore, ?hst⟩
       case henv =>
        repeat' (first | rfl | refine env_cons ?_ ?_ | refine st_cons ?_ ?_ ?_ ?_ | refine int_eq ?_ | refine bool_eq ?_ | refine rsl_eq ?_ | refine osl_eq ?_ | refine sl_eq ?_ ?_ ?_ | refine ptr_eq ?_ ?_ ?_ | refine agg_eq ?_ | refine es_cons ?_ ?_ | refine row_cons ?_ ?_)
        all_goals (first | rfl | omega | (simp [skT, skL]; done))
       case hstore =>
        repeat' (first | rfl | refine env_cons ?_ ?_ | refine st_cons ?_ ?_ ?_ ?_ | refine int_eq ?_ | refine bool_eq ?_ | refine rsl_eq ?_ | refine osl_eq ?_ | refine sl_eq ?_ ?_ ?_ | refine ptr_eq ?_ ?_ ?_ | refine agg_eq ?_ | refine es_cons ?_ ?_ | refine row_cons ?_ ?_)
        all_goals (first | rfl | omega | (simp [skT, skL, rowsR]; done))
       case hst =>
        first | trivial | omega | (simp; done) | (simp; omega)
      rintro mm ee ss kk ⟨i, g2, v2, g7, v7, kc, rfl, rfl, rfl, hI⟩
      generalize hQl3 : thenQ _ _ = Ql3
      refine AW.sg [2,5,7,10,14,115,116,117] [2,41] (e2 @htl @hlen) ?_
      refine AW.seq fun K11 hK11 => ?_
      refine AW.cn ?_ ?_
      ·intro hb
       have hin : i < n := by omega
       have hst := skT_succ n t k i
       have hsle := skT_le n t k i
       refine AW.skip ?_
       refine hK11 _ _ _ ?_; clear hK11
       refine AW.seq fun K12 hK12 => ?_
       have hB5 : ∀ (g2 v2 gj vj : Nat) (kj : Option Nat) (kk : Nat), K12 [(2, .ptr ⟨2, g2, none⟩ 0 0), (5, .int .i64 n), (7, .sl ⟨41, gj, none⟩ 0 (skT n t k (i + 1)).length kj), (10, .int .i64 D), (14, .int .i64 k), (115, .int .i64 n), (116, .int .i64 (i : Nat))] [(2, some ⟨g2, v2, 1, [[.rsl 2 (tabR t)]]⟩), (41, some ⟨gj, vj, 1, rowsR (skT n t k (i + 1))⟩)] kk := by
        intro g2 v2 gj vj  kj kk
        refine hK12 _ _ _ ?_; clear hK12
        refine AW.rg [2,5,7,10,14,115,116] [2,41] (e2 @htl @hlen) ?_
        -- again 3
        rw [← hQl3]; change Exists _
        exact ⟨_, eO, i + 1, _, _, _, _, _, rfl, eD, eD, eT⟩
       refine AW.block ?_
       refine AW.sg [2,5,7,10,14,15,115,116] [2,41] (e2 @htl @hlen) ?_
       refine AW.seq fun K13 hK13 => ?_
       refine AW.sg [2,5,7,10,14,15,115,116,121] [2,41] (e2 @htl @hlen) ?_
       refine AW.cn ?_ ?_
       ·intro hb
        rw [if_pos (by omega), List.append_nil] at hst
        simp only [hst] at hB5
        -- exit 5
        refine AW.kx [2,5,7,10,14,115,116] [2,41] ?_
        exact hB5 _ _ _ _ _ _
       ·intro hb
        rw [if_neg (by omega)] at hst
        refine AW.skip ?_
        refine hK13 _ _ _ ?_; clear hK13
        refine AW.sg [2,5,7,10,14,15,16,115,116] [2,41] (e2 @htl @hlen) ?_
        refine AW.nilOwn 16 200 1 rfl ?_
        refine AW.keep [2, 5, 7, 10, 14, 15, 16, 115, 116] [2, 41, 200] ?_
        simp only [go_sem, reduceIte, zE]
        refine AW.seq fun K14 hK14 => ?_
        refine AW.sg [2,5,7,10,14,15,16,115,116,122,123] [2,41,200] (e2 @htl @hlen) ?_
        refine AW.block ?_
        refine AW.loopE (fun mm ee ss kk => ∃ (j g2 v2 g7 v7 g v : Nat), n - j = mm ∧ ee = [(2, .ptr ⟨2, g2, none⟩ 0 0), (5, .int .i64 n), (7, .sl ⟨41, g7, none⟩ 0 (skT n t k i).length kc), (10, .int .i64 D), (14, .int .i64 k), (15, .int .i64 (i : Nat)), (16, .sl ⟨200, g, none⟩ 0 (skR t k i j).length none), (115, .int .i64 n), (116, .int .i64 (i : Nat)), (122, .int .i64 n), (123, .int .i64 (j : Nat))] ∧ ss = [(2, some ⟨g2, v2, 1, [[.rsl 2 (tabR t)]]⟩), (41, some ⟨g7, v7, 1, rowsR (skT n t k i)⟩), (200, some ⟨g, v, 1, bools (skR t k i j)⟩)] ∧ (j ≤ n)) ?_ ?_
        -- init 4
        ·exact ⟨_, 0, _, _, _, _, _, _, rfl, eD, eD, eT⟩
        rintro mm ee ss kk ⟨j, g2, v2, g7, v7, g, v, rfl, rfl, rfl, hI⟩
        generalize hQl4 : thenQ _ _ = Ql4
        refine AW.sg [2,5,7,10,14,15,16,115,116,122,123,124] [2,41,200] (e2 @htl @hlen) ?_
        refine AW.seq fun K15 hK15 => ?_
        refine AW.cn ?_ ?_
        ·intro hb
         have hjn : j < n := by omega
         have hrs := skR_succ t k i j
         have hrle := skR_le t k i j
         have hrlb := bools_len (skR t k i j)
         have hle := hls i j hin hjn
         have htk : (bools (skR t k i j)).take (skR t k i j).length = bools (skR t k i j) := List.take_of_length_le (by omega)
         have hap : bools (skR t k i j) ++ [[AV.bool (atT t i j)]] = bools (skR t k i j ++ [atT t i j]) := by simp [bools]
         refine AW.skip ?_
         refine hK15 _ _ _ ?_; clear hK15
         refine AW.seq fun K16 hK16 => ?_
         refine AW.block ?_
         refine AW.sg [2,5,7,10,14,15,16,17,115,116,122,123] [2,41,200] (e2 @htl @hlen) ?_
         refine AW.sg [2,5,7,10,14,15,16,17,115,116,122,123,128] [2,41,200] (e2 @htl @hlen) ?_
         have hJ10 : ∀ (g2 v2 g7 v7 gj vj : Nat) (kk : Nat), K16 [(2, .ptr ⟨2, g2, none⟩ 0 0), (5, .int .i64 n), (7, .sl ⟨41, g7, none⟩ 0 (skT n t k i).length kc), (10, .int .i64 D), (14, .int .i64 k), (15, .int .i64 (i : Nat)), (16, .sl ⟨200, gj, none⟩ 0 (skR t k i (j + 1)).length none), (115, .int .i64 n), (116, .int .i64 (i : Nat)), (122, .int .i64 n), (123, .int .i64 (j : Nat))] [(2, some ⟨g2, v2, 1, [[.rsl 2 (tabR t)]]⟩), (41, some ⟨g7, v7, 1, rowsR (skT n t k i)⟩), (200, some ⟨gj, vj, 1, bools (skR t k i (j + 1))⟩)] kk := by
          intro g2 v2 g7 v7 gj vj kk
          refine hK16 _ _ _ ?_; clear hK16
          refine AW.rg [2,5,7,10,14,15,16,115,116,122,123] [2,41,200] (e2 @htl @hlen) ?_
          -- again 4
          rw [← hQl4]; change Exists _
          exact ⟨_, eO, j + 1, _, _, _, _, _, _, rfl, eD, eD, eT⟩
         refine AW.cn ?_ ?_
         ·intro hb
          rw [if_neg (by omega)] at hrs
          simp only [hrs, List.length_append, List.length_singleton] at hJ10
          refine AW.ro 0 (fun ii => if ii = 4 then some (.reads false (.bool (atT t i j))) else none) [2,5,7,10,14,15,16,115,116,122,123] [2,41,200] (e5 @htl @hlen @htk @hrlb @hap) ?_
          repeat with_reducible refine cj ?_ ?_
          all_goals try first | (exact hle) | omega | exact ent (by kernel_rfl) | (simp [scP, scalar]; done) | exact scP_words _ | exact scP_ints _ | exact scP_bools _
          exact hJ10 _ _ _ _ _ _ _
         ·intro hb
          rw [if_pos (by omega), List.append_nil] at hrs
          simp only [hrs] at hJ10
          refine AW.kp [2,5,7,10,14,15,16,115,116,122,123] [2,41,200] ?_
          refine AW.skip ?_
          exact hJ10 _ _ _ _ _ _ _
        ·intro hb
         have hjn : j = n := by omega
         rw [hjn]
         have hrle := skR_le t k i n
         have hrt : (bools (skR t k i n)).take (skR t k i n).length = bools (skR t k i n) := List.take_of_length_le (by rw [bools_len]; omega)
         have hlo := rowsR_len (skT n t k i)
         have hou : (rowsR (skT n t k i)).take (skT n t k i).length = rowsR (skT n t k i) := List.take_of_length_le (by omega)
         have hap := rowsR_app (skT n t k i) (skR t k i n)
         rw [← hst] at hap
         have hel : (skT n t k (i + 1)).length = (skT n t k i).length + 1 := by rw [hst]; simp
         simp only [hel] at hB5
         refine AW.freezeK [200] [16] [2, 5, 7, 10, 14, 115, 116] [2, 41] ?_
         simp only [go_sem, reduceIte, zE, hrt, vwc_bools]
         -- exit 6
         refine AW.kx [2,5,7,10,14,16,115,116] [2,41] ?_
         rw [← hQl4]
         refine hK14 _ _ _ ?_; clear hK14
         refine AW.regionK 0 (fun _ => none) [2, 5, 7, 10, 14, 115, 116] [2, 41] ?_
         simp only [go_sem, reduceIte, reduceCtorEq, zA, zM, zE, zL, zD, zS, zP, zB, zI, zR, htl, hlen, hou, hlo, hap]
         repeat with_reducible refine cj ?_ ?_
         all_goals try first | omega | (simp [scP, scalar]; done) | exact scP_words _ | exact scP_ints _ | exact scP_bools _
         exact hB5 _ _ _ _ _ _
      ·intro hb
       have hin : i = n := by omega
       rw [hin, hsk]
       have hdll := delT_sq n k t
       have hlr := rowsR_len (delT n k t)
       have htk : (rowsR (delT n k t)).take (delT n k t).length = rowsR (delT n k t) := List.take_of_length_le (by omega)
       refine AW.freezeK [41] [7] [5, 10] [2] ?_
       simp only [go_sem, reduceIte, zE, htk, vwc_rowsR]
       -- exit 4
       refine AW.kx [7,10] [2,41,135] ?_
       rw [← hQl3]
       refine hK10 _ _ _ ?_; clear hK10
       refine AW.so 0 (fun ii => if ii = 1 then some (.reads false (.agg [.rsl 2 (tabR (delT n k t))])) else if ii = 2 then some (.reads false (.tup [.int .i64 (H : Nat), .int .i64 ((0 : Nat) : Int)])) else none) [10,18,19] [2] (e2 @htl @hlen) ?_
       repeat with_reducible refine cj ?_ ?_
       all_goals try first | (first | exact hmlk | exact hdlk) | omega | exact ent (by kernel_rfl)
       refine AW.sg [4] [2] (e2 @htl @hlen) ?_
       repeat with_reducible refine cj ?_ ?_
       all_goals try first | (first | omega | (intro h; refine ⟨h, ?_, ?_⟩ <;> omega)) | (intros; (repeat' apply And.intro) <;> first | assumption | (first | omega | (intro h; refine ⟨h, ?_, ?_⟩ <;> omega))) | omega | (intro hgd; exact absurd hgd (by decide)) | rfl | (simp only [go_sem, reduceIte, reduceCtorEq, zA, zM, zE, zL, zD, zS, zP, zB, zI, zR, htl, hlen]; done) | (intro _hgd; simp_all [go_sem]; done)
       -- ret 5
       rw [← hQr]
       refine AW.rt (e2 @htl @hlen) ?_
       exact Wk.of_eq (by simp; omega)
theorem law_bounds (rs : List USet) (hl : longR rs) (hok : ∀ x ∈ rs, okW x.W) (a : Nat) (ha8 : a ≤ 255) : Reads Tryd.prog 7 false [relV rs, .int .u8 (a : Nat)] (.bool true) := by
 cases hg : decide ((7 : Int) < rs.length) || greatB rs with
 | true => exact bounds_l rs hl a ha8 hg
 | false =>
  have hg2 := hg
  rw [Bool.or_eq_false_iff] at hg2
  rcases rel_cases rs hok with ⟨t, ht, hs, hn, hp⟩ | hb
  ·have h := bounds_g _ t hs (by have := of_decide_eq_false hg2.1; omega) hp a ha8 (by rw [← ht]; exact hg)
   rw [relB_SB, ← ht] at h
   exact h
  ·obtain ⟨_, h2⟩ := bad_valid rs hl hg2.2 hok hb
   exact bounds_b rs hl a ha8 hg h2
end Go.Proofs.D

/- Arguments that are read as data, as pure trees. -/
namespace Go.AM

inductive F2 {α β : Type} (R : α → β → Prop) : List α → List β → Prop
  | nil : F2 R [] []
  | cons {a b l r} (h : R a b) (t : F2 R l r) : F2 R (a :: l) (b :: r)

/-- The shape of a type's cells. -/
def Fit (P : Program) : Nat → TypeId → List AV → Prop
  | 0, _, _ => False
  | f + 1, t, avs => match P.underlying t with
    | some .bool => ∃ b, avs = [.bool b]
    | some (.int k) => ∃ n, avs = [.int k n] ∧ k.min ≤ n ∧ n ≤ k.max
    | some .string => ∃ s, avs = [.str s]
    | some (.slice e) => P.cellsOf e = 0 ∨ ∃ es, avs = [.rsl (P.cellsOf e) es] ∧ es.length ≤ maxLen ∧ ∀ x ∈ es, x.length = P.cellsOf e ∧ Fit P f e x
    | some (.struct fs) => ∃ parts : List (List AV), avs = parts.flatten ∧ F2 (fun (fl : Field) p => p.length = P.cellsOf fl.type ∧ Fit P f fl.type p) fs.toList parts
    | some (.array n e) => ∃ parts : List (List AV), avs = parts.flatten ∧ parts.length = n ∧ ∀ p ∈ parts, p.length = P.cellsOf e ∧ Fit P f e p
    | _ => True

abbrev immW (w : World) : Nat → Prop := immF w fun _ => False
def Match (w : World) (avs : List AV) (cs : List Value) : Prop := avs.length = cs.length ∧ ∀ i, i < avs.length → RelP (immW w) w (avs.getD i .any) (cs.getD i undef)

theorem Match.append {w : World} {a a' : List AV} {c c' : List Value} (h : Match w a c) (h' : Match w a' c') : Match w (a ++ a') (c ++ c') := by
  obtain ⟨h1, h2⟩ := h
  obtain ⟨k1, k2⟩ := h'
  refine ⟨by simp [h1, k1], fun i hi => ?_⟩
  rw [getD_append, getD_append, ← h1]
  by_cases hlt : i < a.length
  · rw [if_pos hlt, if_pos hlt]; exact h2 i hlt
  · rw [if_neg hlt, if_neg hlt]
    exact k2 _ (by simp at hi; omega)
theorem Match.one {w : World} {a : AV} {u : Value} (h : RelP (immW w) w a u) : Match w [a] [u] := ⟨rfl, fun i hi => by
  match i, hi with
  | 0, _ => exact h⟩

theorem mapM_some {α β : Type} {f : α → Option β} : ∀ {l : List α} {r : List β}, l.mapM f = some r → F2 (fun a b => f a = some b) l r
  | [], r, h => by
    simp only [List.mapM_nil, Option.pure_def, Option.some.injEq] at h
    subst h; exact .nil
  | a :: l, r, h => by
    rw [List.mapM_cons] at h
    cases ha : f a with
    | none => simp [ha] at h
    | some b =>
      cases hl : l.mapM f with
      | none => simp [ha, hl] at h
      | some r' =>
        simp [ha, hl] at h
        subst h
        exact .cons ha (mapM_some hl)

theorem range_mapM {β : Type} {f : Nat → Option β} {n : Nat} {r : List β} (h : (List.range n).mapM f = some r) : r.length = n ∧ ∀ i, i < n → ∃ b, r[i]? = some b ∧ f i = some b := by
  have h2 := mapM_some h
  have key : ∀ {l : List Nat} {r : List β}, F2 (fun a b => f a = some b) l r → r.length = l.length ∧ ∀ (i a : Nat), l[i]? = some a → ∃ b, r[i]? = some b ∧ f a = some b := by
    intro l r h
    induction h with
    | nil => exact ⟨rfl, by simp⟩
    | cons h t ih =>
      refine ⟨by simp [ih.1], fun i a ha => ?_⟩
      cases i with
      | zero => simp only [List.getElem?_cons_zero, Option.some.injEq] at ha; subst ha; exact ⟨_, rfl, h⟩
      | succ i => simpa using ih.2 i a (by simpa using ha)
  obtain ⟨k1, k2⟩ := key h2
  refine ⟨by simpa using k1, fun i hi => k2 i i (by simp [hi])⟩

theorem cells?_spec {w : World} {a : Addr} {n : Nat} {cs : List Value} (h : w.cells? 0 a n = some cs) : cs.length = n ∧ ∀ j, j < n → w.cell? (a.add j) = some (cs.getD j undef) := by
  simp only [World.cells?, Nat.zero_le, if_true] at h
  obtain ⟨h1, h2⟩ := range_mapM h
  refine ⟨h1, fun j hj => ?_⟩
  obtain ⟨b, e1, e2⟩ := h2 j hj
  rw [e2, List.getD_eq_getElem?_getD, e1]; rfl

theorem cell?_spot {w : World} {a : Addr} {v : Value} (h : w.cell? a = some v) : a.spot = none ∧ a.block < w.heap.size := by
  unfold World.cell? at h
  split at h
  · rename_i c _ _ hh
    split at h
    · cases h
    · rename_i hs
      exact ⟨by simpa using hs, heap_lt hh⟩
  · cases h

theorem chunks_struct {P : Program} (cs : List Value) : ∀ (fs : List Field) (o : Nat), (∀ (j : Nat) f, fs[j]? = some f → f.offset = o + ((fs.take j).map fun f => P.cellsOf f.type).sum) →
    (fs.map fun f => (cs.drop f.offset).take (P.cellsOf f.type)).flatten = (cs.drop o).take ((fs.map fun f => P.cellsOf f.type).sum)
  | [], o, _ => by simp
  | f :: fs, o, h => by
    have h0 := h 0 f rfl
    simp at h0
    have ih := chunks_struct (P := P) cs fs (o + P.cellsOf f.type) fun j g hj => by
      have := h (j + 1) g (by simpa using hj)
      rw [this]
      simp [Nat.add_assoc]
    simp only [List.map_cons, List.flatten_cons, List.sum_cons, ih, h0]
    rw [List.take_add, List.drop_drop]

theorem chunks_array (cs : List Value) (m : Nat) : ∀ n, ((List.range n).map fun i => (cs.drop (i * m)).take m).flatten = cs.take (n * m)
  | 0 => by simp
  | n + 1 => by
    rw [List.range_succ, List.map_append, List.flatten_append, chunks_array cs m n, Nat.succ_mul, List.take_add]
    simp

theorem match_flatten {α : Type} {w : World} {g : α → List Value} {p : α → List AV → Prop} : ∀ {l : List α} {parts : List (List AV)}, F2 (fun a x => p a x ∧ Match w x (g a)) l parts → Match w parts.flatten (l.map g).flatten
  | _, _, .nil => ⟨rfl, by simp⟩
  | _, _, .cons h t => by
    simp only [List.flatten_cons, List.map_cons]
    exact h.2.append (match_flatten t)

theorem forall2_imp {α β : Type} {R S : α → β → Prop} (h : ∀ a b, R a b → S a b) : ∀ {l : List α} {r : List β}, F2 R l r → F2 S l r
  | _, _, .nil => .nil
  | _, _, .cons h1 t => .cons (h _ _ h1) (forall2_imp h t)
theorem forall2_len {α β : Type} {R : α → β → Prop} : ∀ {l : List α} {r : List β}, F2 R l r → l.length = r.length
  | _, _, .nil => rfl
  | _, _, .cons _ t => by simp [forall2_len t]
theorem forall2_right {α β : Type} {R : α → β → Prop} {Q : β → Prop} (h : ∀ a b, R a b → Q b) : ∀ {l : List α} {r : List β}, F2 R l r → ∀ b ∈ r, Q b
  | _, _, .nil, b, hb => by cases hb
  | _, _, .cons h1 t, b, hb => by
    rcases List.mem_cons.1 hb with rfl | hb
    · exact h _ _ h1
    · exact forall2_right h t b hb

theorem fit_of_trod {H : Type} {enc : TypeId × Value → H} {P : Program} {w : World} (hl : laidOutB P = true) : ∀ (n : Nat) (t : TypeId) (cs : List Value) (x : DataW H × List MemPlace), t < P.types.size →
    DataW.trod enc P w 0 (fun _ => true) true n t cs = some x → ∃ avs, Fit P n t avs ∧ Match w avs cs := by
  intro n
  induction n with
  | zero => intro t cs x _ h; simp [DataW.trod] at h
  | succ n ih =>
    intro t cs x ht h
    have hany : (match P.underlying t with | some .bool | some (.int _) | some .string | some (.slice _) | some (.struct _) | some (.array _ _) => False | _ => True) → ∃ avs, Fit P (n + 1) t avs ∧ Match w avs cs := fun hh => by
      refine ⟨List.replicate cs.length .any, ?_, by simp, fun i hi => ?_⟩
      · unfold Fit
        split <;> simp_all
      · have : (List.replicate cs.length AV.any).getD i .any = .any := by
          simp only [List.getD_eq_getElem?_getD]
          cases h : (List.replicate cs.length AV.any)[i]? with
          | none => rfl
          | some y => simp [List.getElem?_replicate] at h; simp [h.2]
        rw [this]; exact .any _
    by_cases hh : (match P.underlying t with | some .bool | some (.int _) | some .string | some (.slice _) | some (.struct _) | some (.array _ _) => False | _ => True)
    · exact hany hh
    cases hu : P.underlying t with
    | none => exact absurd (by rw [hu]; trivial) hh
    | some d =>
      rw [hu] at hh
      cases d <;> first | exact absurd trivial hh | skip
      case bool =>
        unfold DataW.trod at h
        rw [hu] at h
        rcases cs with _ | ⟨c, _ | ⟨c2, rest⟩⟩ <;> (try cases c) <;> simp at h
        exact ⟨[.bool _], by unfold Fit; rw [hu]; exact ⟨_, rfl⟩, .one (.bool _)⟩
      case int k =>
        unfold DataW.trod at h
        rw [hu] at h
        rcases cs with _ | ⟨c, _ | ⟨c2, rest⟩⟩ <;> (try cases c) <;> simp at h
        rename_i k' m
        obtain ⟨⟨rfl, h1⟩, _⟩ := h
        exact ⟨[.int k' m], by unfold Fit; rw [hu]; exact ⟨_, rfl, by simpa [Lit.wf] using h1⟩, .one (.int _ _)⟩
      case string =>
        unfold DataW.trod at h
        rw [hu] at h
        rcases cs with _ | ⟨c, _ | ⟨c2, rest⟩⟩ <;> (try cases c) <;> simp at h
        exact ⟨[.str _], by unfold Fit; rw [hu]; exact ⟨_, rfl⟩, .one (.str _)⟩
      case slice e =>
        have he := kid_slice hl ht hu
        unfold DataW.trod at h
        rw [hu] at h
        have hbad : ∀ c c2 rest, cs ≠ c :: c2 :: rest := fun c c2 rest e => by subst e; cases c <;> simp at h
        rcases cs with _ | ⟨c, _ | ⟨c2, rest⟩⟩
        · simp at h
        rotate_left
        · exact absurd rfl (hbad _ _ _)
        cases c <;> first | (simp at h; done) | skip
        rename_i a len cap
        cases a with
        | none =>
          rcases len with _ | len <;> rcases cap with _ | cap <;> first | (simp at h; done) | skip
          exact ⟨[.rsl (P.cellsOf e) []], by unfold Fit; rw [hu]; exact .inr ⟨[], rfl, by simp, by simp⟩, .one (.rnil _ _ _)⟩
        | some a =>
          dsimp only at h
          split at h
          · rename_i hb
            cases hm : (List.range len).mapM (fun i => (w.cells? 0 (a.add (i * P.cellsOf e)) (P.cellsOf e)).bind (DataW.trod enc P w 0 (fun _ => true) true n e)) with
            | none => rw [hm] at h; simp at h
            | some elems =>
              obtain ⟨k1, k2⟩ := range_mapM hm
              have k3 : ∀ i, i < len → ∃ avs cs', w.cells? 0 (a.add (i * P.cellsOf e)) (P.cellsOf e) = some cs' ∧ Fit P n e avs ∧ Match w avs cs' := fun i hi => by
                obtain ⟨b, _, e2⟩ := k2 i hi
                cases hc : w.cells? 0 (a.add (i * P.cellsOf e)) (P.cellsOf e) with
                | none => rw [hc] at e2; simp at e2
                | some cs' =>
                  rw [hc] at e2
                  obtain ⟨avs, h1, h2⟩ := ih e cs' b he e2
                  exact ⟨avs, cs', rfl, h1, h2⟩
              classical
              let F : Nat → List AV := fun i => if hi : i < len then Classical.choose (k3 i hi) else []
              let es := (List.range len).map F
              have hlen : es.length = len := by simp [es]
              have hget : ∀ i, i < len → es.getD i [] = F i := fun i hi => by simp [es, List.getD_eq_getElem?_getD, hi]
              have hF : ∀ i, i < len → ∃ cs', w.cells? 0 (a.add (i * P.cellsOf e)) (P.cellsOf e) = some cs' ∧ Fit P n e (F i) ∧ Match w (F i) cs' := fun i hi => by
                have := Classical.choose_spec (k3 i hi)
                simp only [F, dif_pos hi]
                exact this
              have hes : ∀ x ∈ es, x.length = P.cellsOf e ∧ Fit P n e x := fun x hx => by
                simp only [es, List.mem_map, List.mem_range] at hx
                obtain ⟨i, hi, rfl⟩ := hx
                obtain ⟨cs', h1, h2, h3⟩ := hF i hi
                exact ⟨h3.1.trans (cells?_spec h1).1, h2⟩
              rcases Nat.eq_zero_or_pos (P.cellsOf e) with hz | hz
              · exact ⟨[.any], by unfold Fit; rw [hu]; exact .inl hz, .one (.any _)⟩
              refine ⟨[.rsl (P.cellsOf e) es], by unfold Fit; rw [hu]; exact .inr ⟨es, rfl, by rw [hlen]; omega, hes⟩, .one ?_⟩
              rcases Nat.eq_zero_or_pos len with h0 | h0
              · have : es = [] := List.length_eq_zero_iff.1 (by omega)
                rw [this, h0]; exact .rnil _ _ _
              · have hcell : ∀ i j, i < len → j < P.cellsOf e → ∃ v, w.cell? ((a.add (i * P.cellsOf e)).add j) = some v ∧ RelP (immW w) w ((es.getD i []).getD j .any) v := fun i j hi hj => by
                  obtain ⟨cs', h1, h2, h3⟩ := hF i hi
                  obtain ⟨g1, g2⟩ := cells?_spec h1
                  refine ⟨_, g2 j hj, ?_⟩
                  rw [hget i hi]
                  exact h3.2 j (by rw [h3.1, g1]; exact hj)
                obtain ⟨v0, g1, _⟩ := hcell 0 0 h0 hz
                simp only [Nat.zero_mul, Addr.add, if_true] at g1
                obtain ⟨hs, hblk⟩ := cell?_spot g1
                obtain ⟨b, off, sp⟩ := a
                simp only at hs
                subst hs
                have hadd : ∀ i j, ((⟨b, off, none⟩ : Addr).add (i * P.cellsOf e)).add j = ⟨b, off + i * P.cellsOf e + j, none⟩ := fun i j => by
                  simp only [Addr.add]
                  split <;> split <;> simp_all
                rw [← hlen]
                refine .rsl _ es b off cap (fun i j => (w.cell? ⟨b, off + i * P.cellsOf e + j, none⟩).getD undef) (by omega) ⟨hblk, fun h => h⟩ (fun x hx => (hes x hx).1) (fun i j hi hj => ?_) (fun i j hi hj => ?_)
                · obtain ⟨v, e1, _⟩ := hcell i j (by omega) hj
                  rw [hadd] at e1
                  simp [e1]
                · obtain ⟨v, e1, e2⟩ := hcell i j (by omega) hj
                  rw [hadd] at e1
                  simpa [e1] using e2
          · cases h
      case struct fs =>
        obtain ⟨hk1, hk2, hk3⟩ := kid_struct hl ht hu
        unfold DataW.trod at h
        rw [hu] at h
        dsimp only at h
        split at h
        · rename_i hlen
          cases hm : (fs.toList.mapM fun f => DataW.trod enc P w 0 (fun _ => true) true n f.type ((cs.drop f.offset).take (P.cellsOf f.type))) with
          | none => rw [hm] at h; simp at h
          | some xs =>
            have h2 := mapM_some hm
            have h3 : ∃ parts : List (List AV), F2 (fun (fl : Field) p => (p.length = P.cellsOf fl.type ∧ Fit P n fl.type p) ∧ Match w p ((cs.drop fl.offset).take (P.cellsOf fl.type))) fs.toList parts := by
              have hall : ∀ f ∈ fs.toList, f.type < P.types.size ∧ f.offset + P.cellsOf f.type ≤ cs.length := fun f hf => by
                refine ⟨hk1 f hf, ?_⟩
                obtain ⟨j, hj, rfl⟩ := List.mem_iff_getElem.1 hf
                have h5 := hk3 j fs.toList[j] (List.getElem?_eq_getElem hj)
                rw [h5, hlen, hk2]
                have h6 : (fs.toList.map fun f => P.cellsOf f.type).sum = ((fs.toList.take j).map fun f => P.cellsOf f.type).sum + ((fs.toList.drop j).map fun f => P.cellsOf f.type).sum := by
                  rw [← List.sum_append, ← List.map_append, List.take_append_drop]
                rw [h6, List.drop_eq_getElem_cons hj]
                simp
              clear hm h hk1 hk2 hk3
              generalize fs.toList = l at h2 hall
              induction h2 with
              | nil => exact ⟨[], .nil⟩
              | cons h1 t ih2 =>
                rename_i f y l' r'
                obtain ⟨parts, hp⟩ := ih2 fun f hf => hall f (List.mem_cons_of_mem _ hf)
                obtain ⟨g1, g2⟩ := hall f (List.mem_cons_self ..)
                obtain ⟨avs, k1, k2⟩ := ih _ _ _ g1 h1
                exact ⟨avs :: parts, .cons ⟨⟨by rw [k2.1]; simp; omega, k1⟩, k2⟩ hp⟩
            obtain ⟨parts, hp⟩ := h3
            refine ⟨parts.flatten, by unfold Fit; rw [hu]; exact ⟨parts, rfl, forall2_imp (fun _ _ h => h.1) hp⟩, ?_⟩
            have h4 := match_flatten hp
            rw [chunks_struct cs fs.toList 0 (fun j f hj => by simpa using hk3 j f hj)] at h4
            rw [← hk2, ← hlen] at h4
            simpa using h4
        · cases h
      case array m e =>
        obtain ⟨he, hsz⟩ := kid_array hl ht hu
        unfold DataW.trod at h
        rw [hu] at h
        dsimp only at h
        split at h
        · rename_i hlen
          cases hm : ((List.range m).mapM fun i => DataW.trod enc P w 0 (fun _ => true) true n e ((cs.drop (i * P.cellsOf e)).take (P.cellsOf e))) with
          | none => rw [hm] at h; simp at h
          | some xs =>
            have h2 := mapM_some hm
            have h3 : ∃ parts : List (List AV), F2 (fun (i : Nat) p => (p.length = P.cellsOf e ∧ Fit P n e p) ∧ Match w p ((cs.drop (i * P.cellsOf e)).take (P.cellsOf e))) (List.range m) parts := by
              have hall : ∀ i ∈ List.range m, (i + 1) * P.cellsOf e ≤ cs.length := fun i hi => by
                rw [hlen, hsz]
                exact Nat.mul_le_mul_right _ (by have := List.mem_range.1 hi; omega)
              clear hm h hsz
              generalize List.range m = l at h2 hall
              induction h2 with
              | nil => exact ⟨[], .nil⟩
              | cons h1 t ih2 =>
                rename_i i y l' r'
                obtain ⟨parts, hp⟩ := ih2 fun f hf => hall f (List.mem_cons_of_mem _ hf)
                have g2 := hall i (List.mem_cons_self ..)
                obtain ⟨avs, k1, k2⟩ := ih _ _ _ he h1
                rw [Nat.succ_mul] at g2
                exact ⟨avs :: parts, .cons ⟨⟨by rw [k2.1]; simp; omega, k1⟩, k2⟩ hp⟩
            obtain ⟨parts, hp⟩ := h3
            refine ⟨parts.flatten, by unfold Fit; rw [hu]; exact ⟨parts, rfl, by have := forall2_len hp; simpa using this.symm, forall2_right (fun _ _ h => h.1) hp⟩, ?_⟩
            have h4 := match_flatten (g := fun i => (cs.drop (i * P.cellsOf e)).take (P.cellsOf e)) hp
            rw [chunks_array, ← hsz, ← hlen] at h4
            simpa using h4
        · cases h

end Go.AM

/- A law's contract out of a contract over pure trees. -/
namespace Go.AM
open Go.RowKit Go.WideShapes Go.ChangeShapes

def aggT (P : Program) (t : TypeId) : Bool :=
  match P.underlying t with
  | some (.struct _) | some (.array _ _) => true
  | _ => false
def supT (P : Program) (t : TypeId) : Bool :=
  match P.underlying t with
  | some .bool | some (.int _) | some .string | some (.slice _) | some (.struct _) | some (.array _ _) => true
  | _ => false
def argAV (P : Program) (t : TypeId) (avs : List AV) : AV := if aggT P t then .agg avs else avs.getD 0 .any
def argsAV (P : Program) : List TypeId → List (List AV) → List AV
  | t :: ts, a :: avs => argAV P t a :: argsAV P ts avs
  | _, _ => []

theorem match_arg {P : Program} {w : World} {t : TypeId} {v : Value} {avs : List AV} {base : Nat} (hs : supT P t = true) (hok : Value.okWide P w .any base t v) (h : Match w avs v.cells.toList) : RelP (immW w) w (argAV P t avs) v := by
  have hone : (∀ cs, v ≠ .agg cs) → aggT P t = false → RelP (immW w) w (argAV P t avs) v := fun hv ha => by
    have hc : v.cells.toList = [v] := by
      cases v <;> first | rfl | exact absurd rfl (hv _)
    rw [hc] at h
    unfold argAV
    rw [ha]
    exact h.2 0 (by rw [h.1]; simp)
  have hagg : (∃ cs, v = .agg cs) → aggT P t = true → RelP (immW w) w (argAV P t avs) v := fun ⟨cs, e⟩ ha => by
    subst e
    unfold argAV
    rw [ha]
    obtain ⟨l⟩ := cs
    exact .agg _ _ h.1 h.2
  cases hu : P.underlying t with
  | none => simp [supT, hu] at hs
  | some d =>
    cases d <;> first | (simp [supT, hu] at hs; done) | skip
    case bool => obtain ⟨b, rfl⟩ := okWide_bool hu hok; exact hone (by simp) (by simp [aggT, hu])
    case int => obtain ⟨b, rfl⟩ := okWide_int hu hok; exact hone (by simp) (by simp [aggT, hu])
    case string => obtain ⟨b, rfl⟩ := okWide_string hu hok; exact hone (by simp) (by simp [aggT, hu])
    case slice => obtain ⟨b, _, _, rfl⟩ := okWide_slice hu hok; exact hone (by simp) (by simp [aggT, hu])
    case struct => obtain ⟨cs, rfl, _⟩ := okWide_struct hu hok; exact hagg ⟨_, rfl⟩ (by simp [aggT, hu])
    case array =>
      unfold Value.okWide at hok
      rw [hu] at hok
      obtain ⟨cs, rfl, _⟩ := hok
      exact hagg ⟨_, rfl⟩ (by simp [aggT, hu])

theorem args_match {H : Type} {enc : TypeId × Value → H} {P : Program} {w : World} {base : Nat} (hl : laidOutB P = true) : ∀ {ts : List TypeId} {vs : List Value} {ds : List (DataW H)} {ps : List MemPlace}, (∀ t ∈ ts, t < P.types.size ∧ supT P t = true) →
    (∀ (j : Nat) t v, ts[j]? = some t → vs[j]? = some v → Value.okWide P w .any base t v) → DataW.TrodAll enc P w 0 (fun _ => true) true ts vs ds ps →
    ∃ ass, F2 (fun t avs => ∃ n, Fit P n t avs) ts ass ∧ (argsAV P ts ass).length = vs.length ∧ ∀ i, i < vs.length → RelP (immW w) w ((argsAV P ts ass).getD i .any) (vs.getD i undef)
  | [], vs, ds, ps, _, _, h => by
    obtain ⟨rfl, _, _⟩ := trodAll_nil h
    exact ⟨[], .nil, rfl, by simp⟩
  | t :: ts, vs, ds, ps, hts, hv, h => by
    obtain ⟨v, vs', d, ds', p, q, rfl, rfl, rfl, ⟨n, h1⟩, h2⟩ := trodAll_cons h
    obtain ⟨avs, k1, k2⟩ := fit_of_trod hl n t _ _ (hts t (List.mem_cons_self ..)).1 h1
    obtain ⟨ass, j1, j2, j3⟩ := args_match hl (fun t ht => hts t (List.mem_cons_of_mem _ ht)) (fun j t v e1 e2 => hv (j + 1) t v (by simpa using e1) (by simpa using e2)) h2
    refine ⟨avs :: ass, .cons ⟨n, k1⟩ j1, by simp [argsAV, j2], fun i hi => ?_⟩
    cases i with
    | zero => simpa [argsAV] using match_arg (hts t (List.mem_cons_self ..)).2 (hv 0 t v rfl rfl) k2
    | succ i => simpa [argsAV] using j3 i (by simpa using hi)

theorem Ext.below {w w' : World} (h : Ext (fun _ => False) w w') : Below w.heap.size w w' := ⟨h.os, h.tape, h.output, h.size, fun k hk => h.block k hk fun e => e⟩

theorem trodAll_below {H : Type} {enc : TypeId × Value → H} {P : Program} {W W' : World} (hl : laidOutB P = true) (hb : Below W.heap.size W W') {sp : Nat → Bool} : ∀ {ts : List TypeId} {vs : List Value} {ds : List (DataW H)} {ps : List MemPlace},
    (∀ t ∈ ts, t < P.types.size ∧ P.readableRec t = true) → DataW.TrodAll enc P W 0 (fun _ => true) true ts vs ds ps → (∀ p ∈ ps, p.block < W.heap.size ∧ sp p.block = true) → DataW.TrodAll enc P W' 0 sp true ts vs ds ps
  | [], vs, ds, ps, _, h, _ => by
    obtain ⟨rfl, rfl, rfl⟩ := trodAll_nil h
    rfl
  | t :: ts, vs, ds, ps, hts, h, hp => by
    obtain ⟨v, vs', d, ds', p, q, rfl, rfl, rfl, h1, h2⟩ := trodAll_cons h
    obtain ⟨g1, g2⟩ := hts t (List.mem_cons_self ..)
    exact ⟨p, q, WideElems.Trod_stays hl g2 g1 h1 (fun x hx => hb.same (hp x (List.mem_append_left _ hx)).1) (fun x hx => (hp x (List.mem_append_left _ hx)).2),
      trodAll_below hl hb (fun t ht => hts t (List.mem_cons_of_mem _ ht)) h2 (fun x hx => hp x (List.mem_append_right _ hx)), rfl⟩

theorem trodAll_len {H : Type} {enc : TypeId × Value → H} {P : Program} {w : World} {b : Nat} {sp : Nat → Bool} {hd : Bool} : ∀ {ts : List TypeId} {vs : List Value} {ds : List (DataW H)} {ps : List MemPlace}, DataW.TrodAll enc P w b sp hd ts vs ds ps → vs.length = ts.length ∧ ds.length = ts.length
  | [], vs, ds, ps, h => by
    obtain ⟨rfl, rfl, rfl⟩ := trodAll_nil h
    exact ⟨rfl, rfl⟩
  | t :: ts, vs, ds, ps, h => by
    obtain ⟨v, vs', d, ds', p, q, rfl, rfl, rfl, _, h2⟩ := trodAll_cons h
    have := trodAll_len h2
    exact ⟨by simp [this.1], by simp [this.2]⟩

/-- What the form asks of a law's call, out of a contract over pure trees. -/
theorem law_contract {H : Type} {enc : TypeId × Value → H} {P : Program} {fn : Func} {f : FuncId} {s : ChangeSpec} (hl : laidOutB P = true) {ts : List TypeId} {T : TypeId} (hps : fn.params.toList = ts) (hrs : fn.resultTypes = #[T]) (hT : P.underlying T = some .bool)
    (hts : ts.all (fun t => decide (t < P.types.size) && supT P t && P.readableRec t) = true) (hvars : s.vars = []) (hs : ∀ ds : List (DataW H), ds.length = ts.length → s.fn H ds = { results := [.lit (.bool true)], args := ds })
    (hread : ∀ ass, F2 (fun t avs => ∃ n, Fit P n t avs) ts ass → Reads P f false (argsAV P ts ass) (.bool true))
    {W : World} {base : Nat} {args : Array Value} {ds gs : List (DataW H)} {before : List MemPlace} (hval : ∀ (j : Nat) t v, fn.params[j]? = some t → args[j]? = some v → Value.okWide P W .any base t v)
    (hW : DataW.Whole enc P fn.params.toList s.vars false W args.toList ds gs before) (hgl : GL (immF W fun _ => False) W) :
    Calls P f args W fun e W' => ∃ v, e = .returned v ∧ s.post enc P fn false true false false W args v W' := by
  have hts' : ∀ t ∈ ts, t < P.types.size ∧ supT P t = true ∧ P.readableRec t = true := fun t ht => by
    have := List.all_eq_true.1 hts t ht
    simpa [and_assoc] using this
  have hW' := hW
  obtain ⟨p, q, hA, hV, rfl, hfz, hnd⟩ := hW
  rw [hvars] at hV
  obtain ⟨rfl, rfl⟩ := trodVars_none hV
  rw [hps] at hA
  obtain ⟨hl1, hl2⟩ := trodAll_len hA
  obtain ⟨ass, j1, j2, j3⟩ := args_match hl (fun t ht => ⟨(hts' t ht).1, (hts' t ht).2.1⟩) (fun j t v e1 e2 => hval j t v (by rw [← hps] at e1; simpa using e1) (by simpa using e2)) hA
  have hc := hread ass j1 W (fun _ => False) args.toList (fun _ h => h.elim) hgl j2.symm (fun i hi => j3 i (by omega))
  rw [show args.toList.toArray = args by simp] at hc
  refine hc.mono fun e W' ⟨u, h1, h2, h3⟩ => ⟨u, h1, ?_⟩
  have hu : u = .bool true := by cases h3; rfl
  subst hu
  have hb := h2.below
  have hlt : ∀ x ∈ p, x.block < W.heap.size := fun x hx => hW'.lt x (by simpa using hx)
  have hsf := hs ds hl2
  have hres : ∀ (b : Nat) (sp : Nat → Bool) (hd : Bool), DataW.TrodAll enc P W' b sp hd fn.resultTypes.toList ((Value.bool true).resultList fn.resultTypes.size) (s.fn H (ds ++ [])).results [] := fun b sp hd => by
    rw [hrs, List.append_nil, hsf]
    exact trodAll_mk1 (shut_bool hT true)
  have hargs : ∀ sp : Nat → Bool, (∀ x ∈ p, sp x.block = true) → DataW.TrodAll enc P W' 0 sp true fn.params.toList args.toList (s.fn H (ds ++ [])).args p := fun sp hsp => by
    rw [List.append_nil, hsf, hps]
    exact trodAll_below hl hb (fun t ht => ⟨(hts' t ht).1, (hts' t ht).2.2⟩) hA fun x hx => ⟨hlt x hx, hsp x hx⟩
  have hvs : ∀ sp : Nat → Bool, DataW.TrodVars enc P W' sp s.vars (s.fn H (ds ++ [])).vars [] := fun sp => by
    rw [List.append_nil, hsf, hvars]; rfl
  refine ⟨ds, [], p ++ [], [], p, [], hW', hres _ _ _, hargs _ (fun x hx => by simpa using hlt x hx), hvs _, World.keptBut_mono (fun x hx => ⟨hx, ?_⟩) (hb.frame (· ∈ p ++ [])), fun _ => ?_⟩
  · simpa using hx
  · refine ⟨ok_one hrs rfl (okWide_bool_mk hT _), _, _, ([] ++ p) ++ [], ⟨[] ++ p, [], trodAll_append (hargs _ (fun _ _ => rfl)) (hres _ _ _), hvs _, rfl, ?_, ?_⟩, ?_⟩
    · intro b off hp
      have hin : MemPlace.cell b off ∈ p := by simpa using hp
      rw [hb.frozen (hlt _ hin)]
      exact hfz b off (by simpa using hin)
    · intro ha; cases ha
    · intro x hx _
      simpa using hx

end Go.AM

/- The shapes of arguments. -/
namespace Go.AM
theorem fit_int {P : Program} {t : TypeId} {k : IntKind} (hu : P.underlying t = some (.int k)) {f : Nat} {x : List AV} (h : Fit P f t x) : ∃ n, x = [.int k n] ∧ k.min ≤ n ∧ n ≤ k.max := by
  cases f with
  | zero => exact h.elim
  | succ f => unfold Fit at h; rw [hu] at h; exact h
theorem fit_slice {P : Program} {t e : TypeId} {m : Nat} (hu : P.underlying t = some (.slice e)) (hm : P.cellsOf e = m) (h0 : m ≠ 0) {f : Nat} {x : List AV} (h : Fit P f t x) : ∃ es f', x = [.rsl m es] ∧ es.length ≤ maxLen ∧ ∀ y ∈ es, Fit P f' e y := by
  cases f with
  | zero => exact h.elim
  | succ f =>
    unfold Fit at h; rw [hu] at h
    rcases h with h | ⟨es, h1, h2, h3⟩
    · exact absurd (hm ▸ h) h0
    · rw [hm] at h1; exact ⟨es, f, h1, h2, fun y hy => (h3 y hy).2⟩
theorem fit_struct {P : Program} {t : TypeId} {fs : Array Field} (hu : P.underlying t = some (.struct fs)) {f : Nat} {x : List AV} (h : Fit P f t x) : ∃ f' parts, x = List.flatten parts ∧ F2 (fun (fl : Field) p => Fit P f' fl.type p) fs.toList parts := by
  cases f with
  | zero => exact h.elim
  | succ f =>
    unfold Fit at h; rw [hu] at h
    obtain ⟨parts, h1, h2⟩ := h
    exact ⟨f, parts, h1, forall2_imp (fun _ _ h => h.2) h2⟩
theorem F2.two {α β : Type} {R : α → β → Prop} {a b : α} {l : List β} (h : F2 R [a, b] l) : ∃ x y, l = [x, y] ∧ R a x ∧ R b y := by
  cases h with | cons h1 t => cases t with | cons h2 t => cases t with | nil => exact ⟨_, _, rfl, h1, h2⟩
theorem F2.three {α β : Type} {R : α → β → Prop} {a b c : α} {l : List β} (h : F2 R [a, b, c] l) : ∃ x y z, l = [x, y, z] ∧ R a x ∧ R b y ∧ R c z := by
  cases h with | cons h1 t => cases t with | cons h2 t => cases t with | cons h3 t => cases t with | nil => exact ⟨_, _, _, rfl, h1, h2, h3⟩
theorem F2.five {α β : Type} {R : α → β → Prop} {a b c d e : α} {l : List β} (h : F2 R [a, b, c, d, e] l) : ∃ x y z u v, l = [x, y, z, u, v] ∧ R a x ∧ R b y ∧ R c z ∧ R d u ∧ R e v := by
  cases h with | cons h1 t => cases t with | cons h2 t => cases t with | cons h3 t => cases t with | cons h4 t => cases t with | cons h5 t => cases t with | nil => exact ⟨_, _, _, _, _, rfl, h1, h2, h3, h4, h5⟩
theorem exists_mapP {α β : Type} {f : α → β} {p : α → Prop} : ∀ {l : List β}, (∀ x ∈ l, ∃ a, x = f a ∧ p a) → ∃ m : List α, l = m.map f ∧ ∀ a ∈ m, p a
  | [], _ => ⟨[], rfl, fun _ h => by cases h⟩
  | x :: l, h => by
    obtain ⟨a, rfl, ha⟩ := h x (List.mem_cons_self ..)
    obtain ⟨m, rfl, hm⟩ := exists_mapP fun y hy => h y (List.mem_cons_of_mem _ hy)
    exact ⟨a :: m, rfl, fun b hb => by rcases List.mem_cons.1 hb with rfl | hb; exact ha; exact hm b hb⟩
theorem okW_of {W : List Int} (h : ∀ w ∈ W, 0 ≤ w ∧ w ≤ 18446744073709551615) : okW W := fun i => by
  by_cases hi : i < W.length
  · have := h _ (mem_getD hi 0); omega
  · rw [List.getD_eq_getElem?_getD, List.getElem?_eq_none (by omega)]; simp
end Go.AM

/- A laid table, as the machine's package variable. -/
namespace Go.AM
theorem rptr_of_laid {P : Program} {n : String} {g : Nat} {t e : TypeId} {k : IntKind} {L : List Int} {W : World} (hg : P.globalNamed n = some g) (ht : (P.globals[g]?).map (·.type) = some t) (hu : P.underlying t = some (.array L.length e))
    (hc : P.cellsOf e = 1) (hc2 : P.cellsOf t = L.length) (hu2 : P.underlying e = some (.int k)) (hL : L ≠ []) (h : laidMet P [(n, .agg (L.map fun i => .lit (.int k i)))] W) : RelP (immF W fun _ => False) W (.rptr (L.map (AV.int k))) (.pointer (some ⟨g, 0, none⟩)) := by
  obtain ⟨ps, ⟨g0, t0, cs0, f0, p0, q0, hg0, ht0, hv0, hd0, _, _⟩, _, _⟩ := h
  obtain rfl := Option.some.inj (hg.symm.trans hg0)
  obtain rfl := Option.some.inj (ht.symm.trans ht0)
  obtain ⟨xs, m, rfl, hx, hlen, hn, hel⟩ := DataW.trod_array hu hd0
  have hcell : ∀ j, j < L.length → W.cell? ⟨g, j, none⟩ = some (.int k (L.getD j 0)) := fun j hj => by
    have h0 := hel j hj
    rw [hc, Nat.mul_one] at h0
    have hjx : j < xs.length := by omega
    rw [List.getElem?_eq_getElem hjx] at h0
    obtain ⟨z, e1, e2, _⟩ := DataW.trod_int hu2 h0
    have hxs : xs.map (·.1) = L.map fun i => .lit (.int k i) := by
      simp only [Prod.mk.injEq, DataW.agg.injEq] at hx
      exact hx.1.symm
    have hzj : (xs.map (·.1))[j]? = (L.map fun i => (.lit (.int k i) : DataW Unit))[j]? := by rw [hxs]
    rw [List.getElem?_map, List.getElem?_map, List.getElem?_eq_getElem hjx, List.getElem?_eq_getElem hj, e2] at hzj
    simp only [Option.map_some, Option.some.injEq, DataW.lit.injEq, Lit.int.injEq] at hzj
    have hz : z = L.getD j 0 := by rw [hzj.2]; simp [List.getD_eq_getElem?_getD, hj]
    have hcs : cs0[j]? = some (.int k z) := by
      have hl : cs0.toList.length = L.length := by rw [hlen, hc2]
      have hd : cs0.toList.drop j = cs0.toList[j]'(by omega) :: cs0.toList.drop (j + 1) := List.drop_eq_getElem_cons (by omega)
      rw [hd] at e1
      simp only [List.take_succ_cons, List.take_zero, List.cons.injEq, and_true] at e1
      rw [← Array.getElem?_toList, List.getElem?_eq_getElem (by omega), e1]
    rw [World.var?_cell hg hv0 j, hcs, hz]
  have hlt : g < W.heap.size := by
    cases L with
    | nil => exact absurd rfl hL
    | cons a l =>
      have := hcell 0 (by simp)
      unfold World.cell? at this
      cases hh : W.heap[g]? with
      | none => simp [hh] at this
      | some o => exact heap_lt hh
  refine .rptr _ g 0 (fun j => .int k (L.getD j 0)) ⟨hlt, fun h => h⟩ (fun j hj => ?_) (fun j hj => ?_)
  · rw [List.length_map] at hj
    rw [Nat.zero_add]
    exact hcell j hj
  · rw [List.length_map] at hj
    have e : (L.map (AV.int k)).getD j .any = .int k (L.getD j 0) := by simp [List.getD_eq_getElem?_getD, hj]
    rw [e]
    exact .int _ _
theorem laidMet_of_H {P : Program} {n : String} {k : IntKind} {L : List Int} {W : World} (h : laidMetH P [(n, .agg (L.map fun i => .lit (.int k i)))] W) : laidMet P [(n, .agg (L.map fun i => .lit (.int k i)))] W := by
  rw [MakeChecks.laidMetH_plain _ _ _ (by rfl)] at h
  exact h
end Go.AM

/- The shapes of the dimension laws' arguments. -/
namespace Go.AM
open Go.Proofs
theorem fit_words {f : Nat} {x : List AV} (h : Fit Tryd.prog f 67 x) : ∃ W : List Int, x = [.rsl 1 (words W)] ∧ W.length ≤ 9223372036854775807 ∧ okW W := by
  obtain ⟨es, f2, rfl, h5, h6⟩ := fit_slice (m := 1) Tryd.underlying67 (by kernel_rfl) (by decide) h
  obtain ⟨ws, rfl, hw⟩ := exists_mapP (f := fun x : Int => [AV.int .u64 x]) (p := fun w => 0 ≤ w ∧ w ≤ 18446744073709551615) fun y hy => by
    obtain ⟨n, e, h1, h2⟩ := fit_int Tryd.underlying81 (h6 y hy)
    exact ⟨n, e, by simpa [IntKind.min, IntKind.signed] using h1, by simpa [IntKind.max, IntKind.signed, IntKind.bits] using h2⟩
  exact ⟨ws, rfl, by simpa [maxLen] using h5, okW_of hw⟩
theorem fit_set {f : Nat} {x : List AV} (h : Fit Tryd.prog f 69 x) : ∃ y : USet, x = rowV y ∧ y.W.length ≤ 9223372036854775807 ∧ okW y.W := by
  obtain ⟨f', parts, rfl, h2⟩ := fit_struct Tryd.underlying69 h
  obtain ⟨a, b, rfl, h3, h4⟩ := F2.two h2
  obtain ⟨i, rfl, _⟩ := fit_int Tryd.underlying3 h3
  obtain ⟨W, rfl, h5, h6⟩ := fit_words h4
  exact ⟨⟨i, W⟩, rfl, h5, h6⟩
theorem F2.one {α β : Type} {R : α → β → Prop} {a : α} {l : List β} (h : F2 R [a] l) : ∃ x, l = [x] ∧ R a x := by
  cases h with | cons h1 t => cases t with | nil => exact ⟨_, rfl, h1⟩
theorem fit_rel {f : Nat} {x : List AV} (h : Fit Tryd.prog f 24 x) : ∃ rs : List USet, x = [.rsl 2 (rs.map rowV)] ∧ (rs.length ≤ 9223372036854775807 ∧ ∀ y ∈ rs, y.W.length ≤ 9223372036854775807) ∧ ∀ y ∈ rs, okW y.W := by
  obtain ⟨f', parts, rfl, h2⟩ := fit_struct Tryd.underlying24 h
  obtain ⟨a, rfl, h3⟩ := F2.one h2
  obtain ⟨es, f2, rfl, h5, h6⟩ := fit_slice (m := 2) Tryd.underlying22 (by kernel_rfl) (by decide) h3
  obtain ⟨rs, rfl, hr⟩ := exists_mapP (f := rowV) (p := fun y => y.W.length ≤ 9223372036854775807 ∧ okW y.W) fun y hy => fit_set (h6 y hy)
  exact ⟨rs, rfl, ⟨by simpa [maxLen] using h5, fun y hy => (hr y hy).1⟩, fun y hy => (hr y hy).2⟩
theorem pgl {W : World} (h : laidMetH Tryd.prog [("math/bits.deBruijn64tab", .agg (tzTab.map fun i => .lit (.int .u8 i)))] W) : GL (immF W fun _ => False) W := fun g cs e => by
  cases g with
  | zero =>
    rw [globA_aux] at e
    obtain rfl := Option.some.inj e
    exact rptr_of_laid (L := tzTab) (by kernel_rfl : Tryd.prog.globalNamed "math/bits.deBruijn64tab" = some 0) (by kernel_rfl : (Tryd.prog.globals[0]?).map (·.type) = some 115) (e := 5) Tryd.underlying115 (by kernel_rfl) (by kernel_rfl) Tryd.underlying5 (by decide) (laidMet_of_H h)
  | succ g => cases e
theorem pmet (os : Os) (args : Array Value) : laidMetH Tryd.prog [("math/bits.deBruijn64tab", .agg (tzTab.map fun i => .lit (.int .u8 i)))] ((World.doorLaid Tryd.prog 400 os).forCall (fun _ _ => 0) ⟨#[], args, []⟩).memory :=
  laidMetH_of_parts3 (fuel := 8) (laidMet_of_run' 8 (by kernel_rfl) (by kernel_rfl)) (by kernel_rfl) (by kernel_rfl)
end Go.AM

