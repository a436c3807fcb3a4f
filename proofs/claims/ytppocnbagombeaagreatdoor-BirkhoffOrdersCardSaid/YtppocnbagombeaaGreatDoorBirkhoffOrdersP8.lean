/- Lemmas and contracts, part 8: an abstract machine over the model, and the functions that the statement reaches. -/
import Derived.Test.YtppocnbagombeaaGreatDoorBirkhoffOrdersP7
import Derived.MakeChecks
import Derived.LaidMore
import Derived.Test.YtppocnbagombeaaGreatDoorRows
set_option linter.unusedVariables false
set_option linter.unusedSimpArgs false
open Nat renaming reduceAdd → zA, reduceMul → zM, reduceEqDiff → zE, reduceLT → zL, reduceLeDiff → zD, reduceSub → zS, reducePow → zP, reduceBEq → zB
open Int renaming reduceToNat → zI
open List renaming reduceReplicate → zR
namespace Go.Proofs.B
open Go.AM Go
set_option maxRecDepth 100000
set_option maxHeartbeats 4000000
theorem formed_a (N n : Int) (W : List Int) (hl : W.length ≤ 9223372036854775807) (hn0 : 0 ≤ n) (hn1 : n ≤ 512) (hm : n.tmod 64 = 0) : Reads Tryz.prog 57 false [.agg [.int .i64 N, .rsl 1 (words W)], .int .i64 n] (.bool (decide (N = n) && validS n W)) := by
  have hwe := wordsN_ref n
  have hwn := wordsN_rng (n := n) hn0
  have hdiv : 0 ≤ n.tdiv 64 ∧ n.tdiv 64 ≤ 512 ∧ n.tdiv 64 = wordsN n := by rw [← hwe]; rw [Int.tmod_eq_emod_of_nonneg hn0] at hm; rw [Int.tdiv_eq_ediv_of_nonneg (by omega), Int.tdiv_eq_ediv_of_nonneg (by omega)]; omega
  refine Reads.body (rs := [.tmp 4]) Tryz.func57 rfl Tryz.ntmps57 rfl (by simp) ?_
  generalize hQr : retQ _ _ _ = Qr
  refine AW.sg [1,2] [2] trivial ?_
  refine AW.seq fun K1 hK1 => ?_
  refine AW.sg [1,2,17] [2] (@hwe) ?_
  repeat with_reducible refine cj ?_ ?_
  all_goals try first | omega | (intros; (repeat' apply And.intro) <;> first | assumption | omega | decide) | (intro hgd; exact absurd hgd (by decide)) | rfl | (simp only [go_sem, reduceIte, reduceCtorEq, zA, zM, zE, zL, zD, zS, zP, zB, zI, zR, hwe]; done) | (intro _hgd; simp_all [go_sem]; done)
  refine AW.cn ?_ ?_
  · intro hb
    refine AW.sg [4] [] trivial ?_
    rw [← hQr]
    refine AW.rt trivial ?_
    exact Wk.of_eq (by congr 1; symm; simp [validS]; intros; omega)
  · intro hb
    have hlen : (W.length : Int) = wordsN n := by omega
    have hNn : N = n := by omega
    have hgw : (words W).getD (n.tdiv 64).toNat [] = [] := by rw [List.getD_eq_getElem?_getD, List.getElem?_eq_none (by rw [words_len]; omega)]; rfl
    refine AW.skip ?_
    refine hK1 _ _ _ ?_; clear hK1
    refine AW.sg [4] [] (e2 @hgw @hm) ?_
    repeat with_reducible refine cj ?_ ?_
    all_goals try first | ((intro hh; (repeat' apply And.intro) <;> first | exact hh | omega | (exfalso; simp at hh; done))) | (intros; (repeat' apply And.intro) <;> first | assumption | ((intro hh; (repeat' apply And.intro) <;> first | exact hh | omega | (exfalso; simp at hh; done)))) | omega | (intro hgd; exact absurd hgd (by decide)) | rfl | (simp only [go_sem, reduceIte, reduceCtorEq, zA, zM, zE, zL, zD, zS, zP, zB, zI, zR, hgw, hm]; done) | (intro _hgd; simp_all [go_sem]; done)
    rw [← hQr]
    refine AW.rt trivial ?_
    exact Wk.of_eq (by simp [validS, topB, hm, hNn, hlen, hn0, hn1])
theorem formed_b (N n : Int) (W : List Int) (hl : W.length ≤ 9223372036854775807) (hn0 : 0 ≤ n) (hn1 : n ≤ 512) (hm : n.tmod 64 ≠ 0) : Reads Tryz.prog 57 false [.agg [.int .i64 N, .rsl 1 (words W)], .int .i64 n] (.bool (decide (N = n) && validS n W)) := by
  have hwe := wordsN_ref n
  have hwn := wordsN_rng (n := n) hn0
  have hmod : 0 ≤ n.tmod 64 ∧ n.tmod 64 < 64 := by rw [Int.tmod_eq_emod_of_nonneg (by omega)]; omega
  have hnz : n ≠ 0 := by rintro rfl; exact hm rfl
  have hwr : IntKind.u64.wrap (n.tmod 64) = n.tmod 64 := by simp [IntKind.wrap, IntKind.signed, IntKind.bits]; omega
  refine Reads.body (rs := [.tmp 4]) Tryz.func57 rfl Tryz.ntmps57 rfl (by simp) ?_
  generalize hQr : retQ _ _ _ = Qr
  refine AW.sg [1,2] [2] trivial ?_
  refine AW.seq fun K1 hK1 => ?_
  refine AW.sg [1,2,17] [2] (@hwe) ?_
  repeat with_reducible refine cj ?_ ?_
  all_goals try first | omega | (intros; (repeat' apply And.intro) <;> first | assumption | omega | decide) | (intro hgd; exact absurd hgd (by decide)) | rfl | (simp only [go_sem, reduceIte, reduceCtorEq, zA, zM, zE, zL, zD, zS, zP, zB, zI, zR, hwe]; done) | (intro _hgd; simp_all [go_sem]; done)
  refine AW.cn ?_ ?_
  · intro hb
    refine AW.sg [4] [] trivial ?_
    rw [← hQr]
    refine AW.rt trivial ?_
    exact Wk.of_eq (by congr 1; symm; simp [validS]; intros; omega)
  · intro hb
    have hlen : (W.length : Int) = wordsN n := by omega
    have hNn : N = n := by omega
    obtain ⟨hti, htl⟩ := top_ix hn0 hlen hm
    have hdiv : 0 ≤ n.tdiv 64 ∧ n.tdiv 64 ≤ 512 := by rw [Int.tdiv_eq_ediv_of_nonneg (by omega)]; omega
    have hgw : (words W).getD (n.tdiv 64).toNat [] = [.int .u64 (W.getD (W.length - 1) 0)] := by rw [← hti]; exact words_getD (by omega)
    refine AW.skip ?_
    refine hK1 _ _ _ ?_; clear hK1
    refine AW.sg [4] [] (e2 @hgw @hwr) ?_
    repeat with_reducible refine cj ?_ ?_
    all_goals try first | ((intro hh; (repeat' apply And.intro) <;> first | exact hh | omega)) | (intros; (repeat' apply And.intro) <;> first | assumption | ((intro hh; (repeat' apply And.intro) <;> first | exact hh | omega))) | omega | (intro hgd; exact absurd hgd (by decide)) | rfl | (simp only [go_sem, reduceIte, reduceCtorEq, zA, zM, zE, zL, zD, zS, zP, zB, zI, zR, hgw, hwr]; done) | (intro _hgd; simp_all [go_sem]; done)
    rw [← hQr]
    refine AW.rt trivial ?_
    exact Wk.of_eq (by simp [validS, topB, hm, hNn, hlen, hn0, hn1])
theorem formed_r (N n : Int) (W : List Int) (hl : W.length ≤ 9223372036854775807) (hn0 : 0 ≤ n) (hn1 : n ≤ 512) : Reads Tryz.prog 57 false [.agg [.int .i64 N, .rsl 1 (words W)], .int .i64 n] (.bool (decide (N = n) && validS n W)) := by
  by_cases hm : n.tmod 64 = 0
  · exact formed_a N n W hl hn0 hn1 hm
  · exact formed_b N n W hl hn0 hn1 hm
theorem rrvalid_r (rs : List USet) (hl : rs.length ≤ 9223372036854775807) (hx : ∀ x ∈ rs, x.W.length ≤ 9223372036854775807) : Reads Tryz.prog 16 false [relV rs] (.bool (validR rs)) := by
  have hf := fun x hxm h => formed_r x.N (rs.length : Nat) x.W (hx x hxm) (by omega) h
  have hvg := validR_good rs
  unfold relV
  refine Reads.body (rs := [.tmp 2]) Tryz.func16 rfl Tryz.ntmps16 rfl (by simp) ?_
  generalize hQr : retQ _ _ _ = Qr
  refine AW.sg [1] [1] trivial ?_
  refine AW.sg [1,3] [1] trivial ?_
  refine AW.seq fun K1 hK1 => ?_
  refine AW.sg [1,3,9] [1] trivial ?_
  refine AW.cn ?_ ?_
  · intro hb
    refine AW.sg [2] [] trivial ?_
    rw [← hQr]
    refine AW.rt trivial ?_
    have hn : ¬ rs.length ≤ 512 := by omega
    exact Wk.of_eq (by rw [hvg]; simp [hn])
  · intro hb
    have h512 : rs.length ≤ 512 := by omega
    refine AW.skip ?_
    refine hK1 _ _ _ ?_; clear hK1
    refine AW.seq fun K2 hK2 => ?_
    refine AW.sg [1,3,4] [1] trivial ?_
    refine AW.block ?_
    refine AW.loopE (fun mm ee ss kk => ∃ (j g v : Nat), rs.length - j = mm ∧ ee = [(1, .ptr ⟨1, g, none⟩ 0 0), (3, .int .i64 rs.length), (4, .int .i64 (j : Nat))] ∧ ss = [(1, some ⟨g, v, 1, [[.rsl 2 (rs.map rowV)]]⟩)] ∧ (j ≤ rs.length ∧ (rs.take j).all (goodRow rs.length) = true)) ?_ ?_
    · exact ⟨_, 0, _, _, rfl, eD, eD, (⟨Nat.zero_le _, rfl⟩)⟩
    rintro mm ee ss kk ⟨j, g, v, rfl, rfl, rfl, hI⟩
    generalize hQl1 : thenQ _ _ = Ql1
    obtain ⟨hj, hall⟩ := hI
    refine AW.seq fun K3 hK3 => ?_
    refine AW.sg [1,3,4,12] [1] trivial ?_
    refine AW.cn ?_ ?_
    · intro hb
      obtain ⟨x, hx2⟩ := getI (l := rs) (j := j) (by omega)
      have hgx := getV (f := rowV) hx2
      have hats := all_take_succ (p := goodRow rs.length) hx2
      have hfx := hf x (List.mem_of_getElem? hx2) (by omega)
      refine AW.skip ?_
      refine hK3 _ _ _ ?_; clear hK3
      refine AW.seq fun K4 hK4 => ?_
      refine AW.block ?_
      refine AW.so 0 (fun ii => if ii = 6 then some (.reads false (.bool (goodRow rs.length x))) else none) [1,3,4,22] [1] (e2 @hgx @rowV.eq_1) ?_
      repeat with_reducible refine cj ?_ ?_
      all_goals try first | (exact hfx) | omega | exact ent (by kernel_rfl)
      refine AW.cn ?_ ?_
      · intro hb
        refine AW.sg [2] [] trivial ?_
        rw [← hQl1, ← hQr]
        refine AW.rt trivial ?_
        exact Wk.of_eq (by rw [hvg, all_false_of hx2 hb]; simp)
      · intro hb
        refine AW.skip ?_
        refine hK4 _ _ _ ?_; clear hK4
        refine AW.rg [1,3,4] [1] trivial ?_
        rw [← hQl1]; change Exists _
        exact ⟨_, eO, j + 1, _, _, rfl, eD, eD, (⟨by omega, by rw [hats, hall, hb]; rfl⟩)⟩
    · intro hb
      refine AW.kx [] [] ?_
      rw [← hQl1]
      refine hK2 _ _ _ ?_; clear hK2
      refine AW.sg [2] [] trivial ?_
      rw [← hQr]
      refine AW.rt trivial ?_
      exact Wk.of_eq (by rw [List.take_of_length_le (by omega)] at hall; rw [hvg, hall]; simp [h512])
theorem table_r (n : Nat) (t : List (List Bool)) (hs : Sq n t) (hn : n ≤ 512) : Reads Tryz.prog 22 true [relB t] (.rsl 1 (rowsR t)) := by
  have hlen := hs.len
  have hrl := tabR_len t
  have hwn := wordsN_rng (n := (n : Int)) (by omega)
  unfold relB
  refine Reads.bodyF (rs := [.tmp 2]) Tryz.func22 rfl Tryz.ntmps22 rfl (by simp) ?_
  generalize hQr : retQ _ _ _ = Qr
  refine AW.sg [1] [1] (e2 @hrl @hlen) ?_
  refine AW.sg [1,3] [1] (e2 @hrl @hlen) ?_
  refine AW.sg [1,3,4] [1] (e2 @hrl @hlen) ?_
  refine AW.seq fun K1 hK1 => ?_
  refine AW.sg [1,3,4,5] [1] (e2 @hrl @hlen) ?_
  refine AW.block ?_
  refine AW.nilOwn 4 200 1 (by simp only [go_sem, reduceIte, zE]) ?_
  refine AW.keep [1, 3, 4, 5] [1, 200] ?_
  simp only [go_sem, reduceIte, zE]
  refine AW.loopE (fun mm ee ss kk => ∃ (i g1 v1 g v : Nat), n - i = mm ∧ ee = [(1, .ptr ⟨1, g1, none⟩ 0 0), (3, .int .i64 n), (4, .sl ⟨200, g, none⟩ 0 i none), (5, .int .i64 (i : Nat))] ∧ ss = [(1, some ⟨g1, v1, 1, [[.rsl 2 (tabR t)]]⟩), (200, some ⟨g, v, 1, rowsO (t.take i)⟩)] ∧ (i ≤ n)) ?_ ?_
  · exact ⟨_, 0, _, _, _, _, rfl, eD, eD, eT⟩
  rintro mm ee ss kk ⟨i, g1, v1, g, v, rfl, rfl, rfl, hI⟩
  generalize hQl1 : thenQ _ _ = Ql1
  refine AW.seq fun K2 hK2 => ?_
  refine AW.sg [1,3,4,5,13] [1,200] (e2 @hrl @hlen) ?_
  refine AW.cn ?_ ?_
  · intro hb
    have hgr := tabR_get (t := t) (i := i) (by omega)
    have hrw := hs.rowLen (i := i) (by omega)
    have hti := take_succT (t := t) (i := i) (by omega)
    have htl : (rowsO (t.take i)).length = i := by rw [rowsO_len]; simp; omega
    have htk : (rowsO (t.take i)).take i = rowsO (t.take i) := List.take_of_length_le (by omega)
    generalize hb' : rowT t i = b at *
    have hap := rowsO_app (t.take i) b
    have hgl := fun x => app_get (rowsO (t.take i)) x htl
    have hsl := fun x y => app_set (rowsO (t.take i)) x y htl
    have hll := fun x => app_len (rowsO (t.take i)) x htl
    have hwl := setW_len' b
    rw [hrw] at hwl
    refine AW.skip ?_
    refine hK2 _ _ _ ?_; clear hK2
    refine AW.seq fun K3 hK3 => ?_
    refine AW.block ?_
    refine AW.sg [1,3,4,5,6] [1,17,200] (e2 @hrl @hlen) ?_
    refine AW.seq fun K4 hK4 => ?_
    refine AW.sg [1,3,4,5,6,7] [1,17,200] (e2 @hrl @hlen) ?_
    refine AW.block ?_
    refine AW.loopE (fun mm ee ss kk => ∃ (j g1 v1 g17 v17 g v : Nat), n - j = mm ∧ ee = [(1, .ptr ⟨1, g1, none⟩ 0 0), (3, .int .i64 n), (4, .sl ⟨200, g, none⟩ 0 i none), (5, .int .i64 (i : Nat)), (6, .sl ⟨17, g17, none⟩ 0 n none), (7, .int .i64 (j : Nat))] ∧ ss = [(1, some ⟨g1, v1, 1, [[.rsl 2 (tabR t)]]⟩), (17, some ⟨g17, v17, 1, bools (fillB b n j)⟩), (200, some ⟨g, v, 1, rowsO (t.take i)⟩)] ∧ (j ≤ n)) ?_ ?_
    · refine ⟨_, 0, ?_, ?_, ?_, ?_, ?_, ?_, rfl, ?henv, ?hstore, ?hst⟩
      case henv =>
        repeat' (first | rfl | apply env_cons | apply st_cons | apply int_eq | apply bool_eq | apply rsl_eq | apply osl_eq | apply sl_eq | apply ptr_eq | apply agg_eq | apply es_cons | apply row_cons)
        all_goals (first | (simp; done) | omega | (simp; omega))
      case hstore =>
        repeat' (first | rfl | apply env_cons | apply st_cons | apply int_eq | apply bool_eq | apply rsl_eq | apply osl_eq | apply sl_eq | apply ptr_eq | apply agg_eq | apply es_cons | apply row_cons)
        all_goals (rw [fillB_zero]; simp [bools])
      case hst =>
        first | trivial | omega | (simp; done) | (simp; omega)
    rintro mm ee ss kk ⟨j, g1, v1, g17, v17, g, v, rfl, rfl, rfl, hI⟩
    generalize hQl2 : thenQ _ _ = Ql2
    refine AW.seq fun K5 hK5 => ?_
    refine AW.sg [1,3,4,5,6,7,20] [1,17,200] (e2 @hrl @hlen) ?_
    refine AW.cn ?_ ?_
    · intro hb
      have hd := div64_rng (i := (j : Int)) (n := n) (by omega) (by omega)
      have hgw := words_getD (l := setW b n) (i := ((j : Int).tdiv 64).toNat) (by omega)
      have hwr : IntKind.u64.wrap ((j : Int).tmod 64) = (j : Int).tmod 64 := by simp [IntKind.wrap, IntKind.signed, IntKind.bits]; omega
      have hhw := hasW_row (b := b) (j := j) (by omega)
      unfold hasW at hhw
      rw [hrw] at hhw
      have hfs := fillB_succ hrw (i := j) (by omega)
      have hfl := fillB_len hrw (i := j) (by omega)
      refine AW.skip ?_
      refine hK5 _ _ _ ?_; clear hK5
      refine AW.seq fun K6 hK6 => ?_
      refine AW.block ?_
      refine AW.rg [1,3,4,5,6,7] [1,17,200] (e5 @hrl @hlen @hgr @rowB.eq_1 (e5 @hrw @hgw @hwr @hhw @hfl)) ?_
      refine hK6 _ _ _ ?_; clear hK6
      refine AW.rg [1,3,4,5,6,7] [1,17,200] (e2 @hrl @hlen) ?_
      rw [← hQl2]; change Exists _
      refine ⟨_, ?hm, j + 1, ?_, ?_, ?_, ?_, ?_, ?_, rfl, ?henv, ?hstore, ?hst⟩
      case henv =>
        repeat' (first | rfl | apply env_cons | apply st_cons | apply int_eq | apply bool_eq | apply rsl_eq | apply osl_eq | apply sl_eq | apply ptr_eq | apply agg_eq | apply es_cons | apply row_cons)
        all_goals (first | (simp; done) | omega | (simp; omega))
      case hstore =>
        repeat' (first | rfl | apply env_cons | apply st_cons | apply int_eq | apply bool_eq | apply rsl_eq | apply osl_eq | apply sl_eq | apply ptr_eq | apply agg_eq | apply es_cons | apply row_cons)
        all_goals (rw [← hfs])
      case hst =>
        first | trivial | omega | (simp; done) | (simp; omega)
      case hm => omega
    · intro hb
      have hj : j = n := by omega
      subst hj
      rw [fillB_all hrw]
      refine AW.exit ?_
      rw [← hQl2]
      refine hK4 _ _ _ ?_; clear hK4
      refine AW.regionK 0 (fun _ => none) [1, 3, 4, 5] [1, 17, 200] ?_
      simp only [go_sem, reduceIte, reduceCtorEq, zA, zM, zE, zL, zD, zS, zP, zB, zI, zR, hrl, hlen, htk, htl]
      repeat with_reducible refine cj ?_ ?_
      all_goals try first | omega | (simp [scP, scalar]; done) | exact scP_words _ | exact scP_ints _ | exact scP_bools _
      refine hK3 _ _ _ ?_; clear hK3
      refine AW.adoptK 200 i 0 17 ?_
      simp only [go_sem, reduceIte, zE, hgl, hsl, hll]
      repeat refine cj ?_ ?_
      any_goals first | exact noOsl_bools _ | decide | (rw [hrw]; done) | omega
      refine AW.keep [1, 3, 4, 5] [1, 200] ?_
      simp only [go_sem, reduceIte, zE, hap]
      refine AW.rg [1,3,4,5] [1,200] (e2 @hrl @hlen) ?_
      rw [← hQl1]; change Exists _
      refine ⟨_, ?hm, i + 1, ?_, ?_, ?_, ?_, rfl, ?henv, ?hstore, ?hst⟩
      case henv =>
        repeat' (first | rfl | apply env_cons | apply st_cons | apply int_eq | apply bool_eq | apply rsl_eq | apply osl_eq | apply sl_eq | apply ptr_eq | apply agg_eq | apply es_cons | apply row_cons)
        all_goals (first | (simp; done) | omega | (simp; omega))
      case hstore =>
        repeat' (first | rfl | apply env_cons | apply st_cons | apply int_eq | apply bool_eq | apply rsl_eq | apply osl_eq | apply sl_eq | apply ptr_eq | apply agg_eq | apply es_cons | apply row_cons)
        all_goals (rw [hti])
      case hst =>
        first | trivial | omega | (simp; done) | (simp; omega)
      case hm => omega
  · intro hb
    refine AW.exit ?_
    rw [← hQl1]
    refine hK1 _ _ _ ?_; clear hK1
    refine AW.sg [2] [200] (e2 @hrl @hlen) ?_
    rw [← hQr]
    refine AW.rt (e2 @hrl @hlen) ?_
    have hi : i = n := by omega
    subst hi
    rw [List.take_of_length_le (by omega : t.length ≤ i), List.take_of_length_le (by rw [rowsO_len]; omega), vwcF_rowsO]
    exact Wk.refl _
theorem rval_e (rs : List USet) (hl : longR rs) (hv : validR rs = false) : Reads Tryz.prog 49 false [relV rs] (.bool false) := by
  have h := rrvalid_r rs hl.1 hl.2
  rw [hv] at h
  unfold relV at *
  refine Reads.body (rs := [.tmp 2]) Tryz.func49 rfl Tryz.ntmps49 rfl (by simp) ?_
  generalize hQr : retQ _ _ _ = Qr
  refine AW.sg [1] [1] trivial ?_
  refine AW.seq fun K1 hK1 => ?_
  refine AW.so 0 (fun ii => if ii = 1 then some (.reads false (.bool false)) else none) [1,9] [1] trivial ?_
  repeat with_reducible refine cj ?_ ?_
  all_goals try first | (exact h) | omega | exact ent (by kernel_rfl)
  refine AW.cn ?_ ?_
  · intro hb
    refine AW.sg [2] [] trivial ?_
    rw [← hQr]
    refine AW.rt trivial ?_
    exact Wk.refl _
  · intro hb
    exfalso; simp at hb
theorem rval_g (n : Nat) (t : List (List Bool)) (hs : Sq n t) (hn : n ≤ 512) : Reads Tryz.prog 49 false [relB t] (.bool (poB n t)) := by
  have hlen := hs.len
  have hlm : (t.map SB).length = n := by simp [hlen]
  have hW : ∀ x ∈ t.map SB, x.W.length ≤ 9223372036854775807 := fun x hx => by
    obtain ⟨b, hb, rfl⟩ := List.mem_map.1 hx
    have := setB_len (b := b) (by rw [hs.row b hb]; exact hn)
    simp only [SB]; omega
  have h := rrvalid_r (t.map SB) (by omega) hW
  rw [valid_tab hs hn, ← relB_SB] at h
  have ht := (table_r n t hs hn).old
  have hrl := rowsR_len t
  have hpo := poB_iff hs
  unfold relB at *
  refine Reads.body (rs := [.tmp 2]) Tryz.func49 rfl Tryz.ntmps49 rfl (by simp) ?_
  generalize hQr : retQ _ _ _ = Qr
  refine AW.sg [1] [1] (e3 @hrl @hlen @bools_len) ?_
  refine AW.seq fun K1 hK1 => ?_
  refine AW.so 0 (fun ii => if ii = 1 then some (.reads false (.bool true)) else none) [1,9] [1] (e3 @hrl @hlen @bools_len) ?_
  repeat with_reducible refine cj ?_ ?_
  all_goals try first | (exact h) | omega | exact ent (by kernel_rfl)
  refine AW.cn ?_ ?_
  · intro hb
    exfalso; simp at hb
  · intro hb
    refine AW.skip ?_
    refine hK1 _ _ _ ?_; clear hK1
    refine AW.so 0 (fun ii => if ii = 1 then some (.reads false (.rsl 1 (rowsR t))) else none) [3] [] (e3 @hrl @hlen @bools_len) ?_
    repeat with_reducible refine cj ?_ ?_
    all_goals try first | (exact ht) | omega | exact ent (by kernel_rfl)
    refine AW.seq fun K2 hK2 => ?_
    refine AW.sg [3,4] [] (e3 @hrl @hlen @bools_len) ?_
    refine AW.block ?_
    refine AW.loopE (fun mm ee ss kk => ∃ (i : Nat), n - i = mm ∧ ee = [(3, .rsl 1 (rowsR t)), (4, .int .i64 (i : Nat))] ∧ ss = [] ∧ (i ≤ n ∧ ∀ a, a < i → atT t a a = false ∧ ∀ b c, b < n → c < n → atT t a b = true → atT t b c = true → atT t a c = true)) ?_ ?_
    · exact ⟨_, 0, rfl, eD, eD, (⟨by omega, fun a ha => by omega⟩)⟩
    rintro mm ee ss kk ⟨i, rfl, rfl, rfl, hI⟩
    generalize hQl1 : thenQ _ _ = Ql1
    obtain ⟨hi, hal⟩ := hI
    refine AW.seq fun K3 hK3 => ?_
    refine AW.sg [3,4,15] [] (e3 @hrl @hlen @bools_len) ?_
    refine AW.cn ?_ ?_
    · intro hb
      have hgi := rowsR_get (t := t) (i := i) (by omega)
      have hri := hs.rowLen (i := i) (by omega)
      have hgii := bools_getD (l := rowT t i) (i := i) (by omega)
      have hat : atT t i i = (rowT t i).getD i false := rfl
      rw [← hat] at hgii
      refine AW.skip ?_
      refine hK3 _ _ _ ?_; clear hK3
      refine AW.seq fun K4 hK4 => ?_
      refine AW.block ?_
      refine AW.seq fun K5 hK5 => ?_
      refine AW.sg [3,4,24] [] (e2 @hrl (e5 @hlen @bools_len @hgi @hri @hgii)) ?_
      refine AW.cn ?_ ?_
      · intro hb
        refine AW.sg [2] [] (e3 @hrl @hlen @bools_len) ?_
        rw [← hQl1, ← hQr]
        refine AW.rt (e3 @hrl @hlen @bools_len) ?_
        have hf : poB n t = false := by
          cases e : poB n t with
          | false => rfl
          | true => have := (hpo.1 e).irr i (by omega); rw [hb] at this; cases this
        exact Wk.of_eq (by rw [hf])
      · intro hb
        have hir : atT t i i = false := by simpa using hb
        clear hb
        refine AW.skip ?_
        refine hK5 _ _ _ ?_; clear hK5
        refine AW.sg [3,4,5] [] (e3 @hrl @hlen @bools_len) ?_
        refine AW.block ?_
        refine AW.loopE (fun mm ee ss kk => ∃ (j : Nat), n - j = mm ∧ ee = [(3, .rsl 1 (rowsR t)), (4, .int .i64 (i : Nat)), (5, .int .i64 (j : Nat))] ∧ ss = [] ∧ (j ≤ n ∧ ∀ b c, b < j → c < n → atT t i b = true → atT t b c = true → atT t i c = true)) ?_ ?_
        · exact ⟨_, 0, rfl, eD, eD, (⟨by omega, fun b c hb => by omega⟩)⟩
        rintro mm ee ss kk ⟨j, rfl, rfl, rfl, hI⟩
        generalize hQl2 : thenQ _ _ = Ql2
        obtain ⟨hj, hal2⟩ := hI
        refine AW.seq fun K6 hK6 => ?_
        refine AW.sg [3,4,5,28] [] (e3 @hrl @hlen @bools_len) ?_
        refine AW.cn ?_ ?_
        · intro hb
          have hgj := rowsR_get (t := t) (i := j) (by omega)
          have hrj := hs.rowLen (i := j) (by omega)
          have hgij := bools_getD (l := rowT t i) (i := j) (by omega)
          have hatij : atT t i j = (rowT t i).getD j false := rfl
          rw [← hatij] at hgij
          refine AW.skip ?_
          refine hK6 _ _ _ ?_; clear hK6
          refine AW.seq fun K7 hK7 => ?_
          refine AW.block ?_
          refine AW.sg [3,4,5,6] [] (e3 @hrl @hlen @bools_len) ?_
          refine AW.block ?_
          refine AW.loopE (fun mm ee ss kk => ∃ (k : Nat), n - k = mm ∧ ee = [(3, .rsl 1 (rowsR t)), (4, .int .i64 (i : Nat)), (5, .int .i64 (j : Nat)), (6, .int .i64 (k : Nat))] ∧ ss = [] ∧ (k ≤ n ∧ ∀ c, c < k → atT t i j = true → atT t j c = true → atT t i c = true)) ?_ ?_
          · exact ⟨_, 0, rfl, eD, eD, (⟨by omega, fun c hc => by omega⟩)⟩
          rintro mm ee ss kk ⟨k, rfl, rfl, rfl, hI⟩
          generalize hQl3 : thenQ _ _ = Ql3
          obtain ⟨hk, hal3⟩ := hI
          refine AW.seq fun K8 hK8 => ?_
          refine AW.sg [3,4,5,6,34] [] (e3 @hrl @hlen @bools_len) ?_
          refine AW.cn ?_ ?_
          · intro hb
            have hgjk := bools_getD (l := rowT t j) (i := k) (by omega)
            have hgik := bools_getD (l := rowT t i) (i := k) (by omega)
            have hatjk : atT t j k = (rowT t j).getD k false := rfl
            have hatik : atT t i k = (rowT t i).getD k false := rfl
            rw [← hatjk] at hgjk
            rw [← hatik] at hgik
            refine AW.skip ?_
            refine hK8 _ _ _ ?_; clear hK8
            refine AW.seq fun K9 hK9 => ?_
            refine AW.block ?_
            refine AW.sg [3,4,5,6,62] [] (e2 @hrl (e5 @hlen @bools_len @hgi @hri (e5 @hgj @hrj @hgij @hgjk @hgik))) ?_
            repeat with_reducible refine cj ?_ ?_
            all_goals try first | ((intro hh; (repeat' apply And.intro) <;> first | exact hh | omega)) | (intros; (repeat' apply And.intro) <;> first | assumption | ((intro hh; (repeat' apply And.intro) <;> first | exact hh | omega))) | omega | (intro hgd; exact absurd hgd (by decide)) | rfl | (simp only [go_sem, reduceIte, reduceCtorEq, zA, zM, zE, zL, zD, zS, zP, zB, zI, zR, hrl, hlen, bools_len, hgi, hri, hgj, hrj, hgij, hgjk, hgik]; done) | (intro _hgd; simp_all [go_sem]; done)
            refine AW.cn ?_ ?_
            · intro hb
              refine AW.sg [2] [] (e3 @hrl @hlen @bools_len) ?_
              rw [← hQl3, ← hQl2, ← hQl1, ← hQr]
              refine AW.rt (e3 @hrl @hlen @bools_len) ?_
              have hf : poB n t = false := by
                cases e : poB n t with
                | false => rfl
                | true => have := (hpo.1 e).trans i j k (by omega) (by omega) (by omega) hb.1.1 hb.1.2; rw [hb.2] at this; cases this
              exact Wk.of_eq (by rw [hf])
            · intro hb
              refine AW.skip ?_
              refine hK9 _ _ _ ?_; clear hK9
              refine AW.rg [3,4,5,6] [] (e3 @hrl @hlen @bools_len) ?_
              rw [← hQl3]; change Exists _
              refine ⟨_, eO, k + 1, rfl, eD, eD, ?_⟩
              refine ⟨by omega, fun c hc h1 h2 => ?_⟩
              by_cases e : c = k
              · subst e
                revert hb; rw [h1, h2]; cases atT t i c <;> simp
              · exact hal3 c (by omega) h1 h2
          · intro hb
            have hk2 : k = n := by omega
            refine AW.kx [3,4,5] [] ?_
            rw [← hQl3]
            refine hK7 _ _ _ ?_; clear hK7
            refine AW.rg [3,4,5] [] (e3 @hrl @hlen @bools_len) ?_
            rw [← hQl2]; change Exists _
            refine ⟨_, eO, j + 1, rfl, eD, eD, ?_⟩
            refine ⟨by omega, fun b c hb2 hc h1 h2 => ?_⟩
            by_cases e : b = j
            · subst e; exact hal3 c (by omega) h1 h2
            · exact hal2 b c (by omega) hc h1 h2
        · intro hb
          have hj2 : j = n := by omega
          refine AW.kx [3,4] [] ?_
          rw [← hQl2]
          refine hK4 _ _ _ ?_; clear hK4
          refine AW.rg [3,4] [] (e3 @hrl @hlen @bools_len) ?_
          rw [← hQl1]; change Exists _
          refine ⟨_, eO, i + 1, rfl, eD, eD, ?_⟩
          refine ⟨by omega, fun a ha => ?_⟩
          by_cases e : a = i
          · subst e; exact ⟨hir, fun b c hb2 hc => hal2 b c (by omega) hc⟩
          · exact hal a (by omega)
    · intro hb
      refine AW.kx [] [] ?_
      rw [← hQl1]
      refine hK2 _ _ _ ?_; clear hK2
      refine AW.sg [2] [] (e3 @hrl @hlen @bools_len) ?_
      rw [← hQr]
      refine AW.rt (e3 @hrl @hlen @bools_len) ?_
      have hi2 : i = n := by omega
      have hp : IsPo n t := ⟨fun a ha => (hal a (by omega)).1, fun a b c ha hb2 hc => (hal a (by omega)).2 b c hb2 hc⟩
      exact Wk.of_eq (by rw [hpo.2 hp])
end Go.Proofs.B

/- Joins by the definition. -/
namespace Go.AM
def lq (t : List (List Bool)) (i x : Nat) : Bool := decide (i = x) || atT t i x
theorem lq_trans {n : Nat} {t : List (List Bool)} (hp : IsPo n t) {i j k : Nat} (hi : i < n) (hj : j < n) (hk : k < n) (h1 : lq t i j = true) (h2 : lq t j k = true) : lq t i k = true := by
  unfold lq at *
  simp only [Bool.or_eq_true, decide_eq_true_eq] at *
  rcases h1 with rfl | h1
  · exact h2
  · rcases h2 with rfl | h2
    · exact .inr h1
    · exact .inr (hp.trans i j k hi hj hk h1 h2)
theorem lq_refl (t : List (List Bool)) (i : Nat) : lq t i i = true := by unfold lq; simp
theorem andR_at {n : Nat} {t : List (List Bool)} (hs : Sq n t) {i j x : Nat} (hi : i < n) (hj : j < n) (hx : x < n) : (andR (upR t n) i j).getD x false = (lq t i x && lq t j x) := by
  have h1 : ((upR t n).getD i []).length = n := by rw [upR_get hi, List.length_set, hs.rowLen hi]
  have h2 : ((upR t n).getD j []).length = n := by rw [upR_get hj, List.length_set, hs.rowLen hj]
  have e1 := upR_at hs hi (x := x)
  have e2 := upR_at hs hj (x := x)
  unfold andR lq
  rw [← e1, ← e2]
  generalize (upR t n).getD i [] = a at *
  generalize (upR t n).getD j [] = b at *
  simp [List.getD_eq_getElem?_getD, List.getElem?_zipWith, show x < a.length by omega, show x < b.length by omega]
theorem andR_len {n : Nat} {t : List (List Bool)} (hs : Sq n t) {i j : Nat} (hi : i < n) (hj : j < n) : (andR (upR t n) i j).length = n := by
  unfold andR
  rw [List.length_zipWith, upR_get hi, upR_get hj, List.length_set, List.length_set, hs.rowLen hi, hs.rowLen hj, Nat.min_self]
end Go.AM

namespace Go.Proofs.B
open Go.AM Go
set_option maxRecDepth 100000
set_option maxHeartbeats 4000000
def longG (x : USet) : Bool := decide ((20 : Int) < x.W.length)
theorem great1_r (x : USet) (hx : x.W.length ≤ 9223372036854775807) : Reads Tryz.prog 48 false [.agg (rowV x)] (.bool (longG x)) := by
  unfold rowV
  refine Reads.body (rs := [.tmp 2]) Tryz.func48 rfl Tryz.ntmps48 rfl (by simp) ?_
  generalize hQr : retQ _ _ _ = Qr
  refine AW.sg [1] [1] trivial ?_
  refine AW.sg [2] [] trivial ?_
  rw [← hQr]
  refine AW.rt trivial ?_
  exact Wk.refl _
theorem ixg_r (rs : List USet) (hl : longR rs) : Reads Tryz.prog 29 false [.rsl 2 (rs.map rowV), .fn 48 []] (.int .i64 (ixf longG rs)) := by
  have hbp := fun x hxm => great1_r x (hl.2 x hxm)
  have hl1 := hl.1
  refine Reads.body (rs := [.tmp 4]) Tryz.func29 rfl Tryz.ntmps29 rfl (by simp) ?_
  generalize hQr : retQ _ _ _ = Qr
  refine AW.sg [0,1] [] trivial ?_
  refine AW.seq fun K1 hK1 => ?_
  refine AW.sg [0,1,7,8] [] trivial ?_
  refine AW.block ?_
  refine AW.loopE (fun mm ee ss kk => ∃ (j : Nat), rs.length - j = mm ∧ ee = [(0, .rsl 2 (rs.map rowV)), (1, .fn 48 []), (7, .int .i64 rs.length), (8, .int .i64 (j : Nat))] ∧ ss = [] ∧ (j ≤ rs.length ∧ (rs.take j).any longG = false)) ?_ ?_
  · exact ⟨_, 0, rfl, eD, eD, eT⟩
  rintro mm ee ss kk ⟨j, rfl, rfl, rfl, hI⟩
  generalize hQl1 : thenQ _ _ = Ql1
  obtain ⟨hj, hall⟩ := hI
  refine AW.sg [0,1,7,8,9] [] trivial ?_
  refine AW.seq fun K2 hK2 => ?_
  refine AW.cn ?_ ?_
  · intro hb
    obtain ⟨x, hx⟩ := getI (l := rs) (j := j) (by omega)
    have hgx := getV (f := rowV) hx
    have hats := any_take_succ (p := longG) hx
    have hbx := hbp x (List.mem_of_getElem? hx)
    refine AW.skip ?_
    refine hK2 _ _ _ ?_; clear hK2
    refine AW.seq fun K3 hK3 => ?_
    refine AW.block ?_
    refine AW.sg [0,1,5,7,8] [] trivial ?_
    refine AW.so 0 (fun ii => if ii = 5 then some (.reads false (.bool (longG x))) else none) [0,1,5,7,8,16] [] (e2 @hgx @rowV.eq_1) ?_
    repeat with_reducible refine cj ?_ ?_
    all_goals try first | (exact hbx) | omega | exact ent (by kernel_rfl)
    refine AW.cn ?_ ?_
    · intro hb
      refine AW.sg [4] [] trivial ?_
      rw [← hQl1, ← hQr]
      refine AW.rt trivial ?_
      exact Wk.of_eq (by rw [ixf_at hx hb hall])
    · intro hb
      refine AW.skip ?_
      refine hK3 _ _ _ ?_; clear hK3
      refine AW.rg [0,1,7,8] [] trivial ?_
      rw [← hQl1]; change Exists _
      exact ⟨_, eO, j + 1, rfl, eD, eD, (⟨by omega, by rw [hats, hall, hb]; rfl⟩)⟩
  · intro hb
    refine AW.kx [] [] ?_
    rw [← hQl1]
    refine hK1 _ _ _ ?_; clear hK1
    refine AW.sg [4] [] trivial ?_
    rw [← hQr]
    refine AW.rt trivial ?_
    exact Wk.of_eq (by rw [List.take_of_length_le (by omega)] at hall; rw [ixf_none hall])
theorem ctg_r (rs : List USet) (hl : longR rs) : Reads Tryz.prog 47 false [.rsl 2 (rs.map rowV), .fn 48 []] (.bool (rs.any longG)) := by
  have h := ixg_r rs hl
  have hge := ixf_ge longG rs
  refine Reads.body (rs := [.tmp 4]) Tryz.func47 rfl Tryz.ntmps47 rfl (by simp) ?_
  generalize hQr : retQ _ _ _ = Qr
  refine AW.sg [0,1] [] trivial ?_
  refine AW.so 0 (fun ii => if ii = 2 then some (.reads false (.int .i64 (ixf longG rs))) else none) [4] [] trivial ?_
  repeat with_reducible refine cj ?_ ?_
  all_goals try first | (exact h) | omega | exact ent (by kernel_rfl)
  rw [← hQr]
  refine AW.rt trivial ?_
  exact Wk.of_eq (by rw [hge])
def greatB (rs : List USet) : Bool := decide ((30 : Int) < rs.length) || rs.any longG
theorem great_r (rs : List USet) (hl : longR rs) : Reads Tryz.prog 10 false [relV rs] (.bool (greatB rs)) := by
  have h := Reads.flat (ctg_r rs hl) rfl
  have hl1 := hl.1
  unfold relV
  refine Reads.body (rs := [.tmp 2]) Tryz.func10 rfl Tryz.ntmps10 rfl (by simp) ?_
  generalize hQr : retQ _ _ _ = Qr
  refine AW.sg [1] [1] trivial ?_
  refine AW.so 0 (fun ii => if ii = 7 then some (.reads true (.bool (rs.any longG))) else none) [2] [] trivial ?_
  repeat with_reducible refine cj ?_ ?_
  all_goals try first | ((intro hh; exact ⟨hh, h⟩)) | (intros; (repeat' apply And.intro) <;> first | assumption | ((intro hh; exact ⟨hh, h⟩))) | omega | exact ent (by kernel_rfl) | (intro hgd; exact absurd hgd (by decide)) | rfl | exact gD | (intro _hgd; simp_all [go_sem]; done)
  rw [← hQr]
  refine AW.rt trivial ?_
  exact Wk.of_eq (by unfold greatB; rfl)
theorem order_r (es : List (List AV)) (v : Bool) (h : Reads Tryz.prog 49 false [.agg [.rsl 2 es]] (.bool v)) : Reads Tryz.prog 11 false [.agg [.rsl 2 es]] (.bool v) := by
  refine Reads.body (rs := [.tmp 2]) Tryz.func11 rfl Tryz.ntmps11 rfl (by simp) ?_
  generalize hQr : retQ _ _ _ = Qr
  refine AW.sg [1] [1] trivial ?_
  refine AW.so 0 (fun ii => if ii = 1 then some (.reads false (.bool v)) else none) [2] [] trivial ?_
  repeat with_reducible refine cj ?_ ?_
  all_goals try first | (exact h) | omega | exact ent (by kernel_rfl)
  rw [← hQr]
  refine AW.rt trivial ?_
  exact Wk.refl _
end Go.Proofs.B

namespace Go.Proofs.B
open Go.AM Go
set_option maxRecDepth 100000
set_option maxHeartbeats 4000000
theorem rval_bad (rs : List USet) (hl : longR rs) (hb : BadP rs) : Reads Tryz.prog 58 false [relV rs] (.bool false) ∧ Reads Tryz.prog 49 false [relV rs] (.bool false) := by
  rcases hb with hv | ⟨t, ht, hs, hn, hp⟩
  · exact ⟨pvalid_e rs hl hv, rval_e rs hl hv⟩
  · have h1 := pvalid_g _ t hs hn
    have h2 := rval_g _ t hs hn
    rw [hp, relB_SB, ← ht] at h1 h2
    exact ⟨h1, h2⟩
end Go.Proofs.B

/- The laws of joins and meets. -/
namespace Go.AM
/-- J gives the least upper bounds of q on the first n numbers. -/
def IsJ (q : Nat → Nat → Bool) (n : Nat) (J : Nat → Nat → Nat) : Prop := ∀ i j, i < n → j < n → J i j < n ∧ ∀ x, x < n → q (J i j) x = (q i x && q j x)
structure PoQ (q : Nat → Nat → Bool) (n : Nat) : Prop where
  refl : ∀ i, q i i = true
  trans : ∀ i j k, i < n → j < n → k < n → q i j = true → q j k = true → q i k = true
  anti : ∀ i j, i < n → j < n → q i j = true → q j i = true → i = j
theorem PoQ.ext {q : Nat → Nat → Bool} {n : Nat} (p : PoQ q n) {a b : Nat} (ha : a < n) (hb : b < n) (h : ∀ x, x < n → q a x = q b x) : a = b :=
  p.anti a b ha hb (by rw [h b hb]; exact p.refl b) (by rw [← h a ha]; exact p.refl a)
theorem IsJ.le {q : Nat → Nat → Bool} {n : Nat} {J : Nat → Nat → Nat} (p : PoQ q n) (h : IsJ q n J) {i j : Nat} (hi : i < n) (hj : j < n) : q i (J i j) = true ∧ q j (J i j) = true := by
  have h1 := h i j hi hj
  have h2 := h1.2 (J i j) h1.1
  rw [p.refl, eq_comm, Bool.and_eq_true] at h2
  exact h2
theorem lq_po {n : Nat} {t : List (List Bool)} (hp : IsPo n t) : PoQ (lq t) n := ⟨lq_refl t, fun i j k hi hj hk => lq_trans hp hi hj hk, fun i j hi hj h1 h2 => by
  unfold lq at h1 h2
  simp only [Bool.or_eq_true, decide_eq_true_eq] at h1 h2
  rcases h1 with h1 | h1
  · exact h1
  · rcases h2 with h2 | h2
    · exact h2.symm
    · have h3 := hp.trans i j i hi hj hi h1 h2
      rw [hp.irr i hi] at h3; cases h3⟩
theorem lq_inv {n : Nat} {t : List (List Bool)} {i j : Nat} (hi : i < n) (hj : j < n) : lq (invT n t) i j = lq t j i := by
  unfold lq
  rw [atT_inv hi hj, show decide (i = j) = decide (j = i) from decide_eq_decide.2 eq_comm]
theorem lat_bnd {n : Nat} {t : List (List Bool)} (h : latB t n = true) {i j : Nat} (hi : i < n) (hj : j < n) : 0 ≤ bndF (upR t n) i j ∧ 0 ≤ bndF (upR (invT n t) n) i j := by
  unfold latB at h
  rw [Bool.and_eq_true] at h
  have h1 := List.all_eq_true.1 h.2 i (List.mem_range.2 hi)
  rw [Bool.and_eq_true] at h1
  have key : ∀ G : List (List Bool), G.length = n → noneT (bndT G) i = true → 0 ≤ bndF G i j := fun G hG hg => by
    unfold noneT at hg
    rw [Bool.not_eq_true', decide_eq_false_iff_not, bndT_row (by omega), List.mem_map, hG] at hg
    have := (ixf_lt (fun s => decide (s = andR G i j)) G).1
    apply Classical.byContradiction
    intro hn
    exact hg ⟨j, List.mem_range.2 hj, by unfold bndF at *; omega⟩
  exact ⟨key _ (upR_len t n) h1.1, key _ (upR_len _ n) h1.2⟩
def jnN (t : List (List Bool)) (n i j : Nat) : Nat := (bndF (upR t n) i j).toNat
theorem jn_of {n : Nat} {t : List (List Bool)} (hs : Sq n t) {i j : Nat} (hi : i < n) (hj : j < n) (h : 0 ≤ bndF (upR t n) i j) : jnN t n i j < n ∧ ∀ x, x < n → lq t (jnN t n i j) x = (lq t i x && lq t j x) := by
  unfold jnN
  have hge := ixf_ge (fun s => decide (s = andR (upR t n) i j)) (upR t n)
  unfold bndF at h ⊢
  rw [decide_eq_true h] at hge
  unfold ixf
  rw [if_pos hge.symm, Int.toNat_natCast]
  have hlt := List.findIdx_lt_length_of_exists (p := fun s => decide (s = andR (upR t n) i j)) (xs := upR t n) (by
    obtain ⟨x, hx, hp⟩ := List.any_eq_true.1 hge.symm
    exact ⟨x, hx, hp⟩)
  have hat := List.findIdx_getElem (w := hlt)
  have hat := of_decide_eq_true hat
  have hl := upR_len t n
  refine ⟨by omega, fun x hx => ?_⟩
  have e1 := upR_at hs (i := List.findIdx (fun s => decide (s = andR (upR t n) i j)) (upR t n)) (by omega) (x := x)
  unfold lq at *
  rw [← e1, show (upR t n).getD (List.findIdx (fun s => decide (s = andR (upR t n) i j)) (upR t n)) [] = andR (upR t n) i j by
    refine Eq.trans ?_ hat
    rw [List.getD_eq_getElem?_getD, List.getElem?_eq_getElem hlt]; rfl]
  have := andR_at hs hi hj hx
  unfold lq at this
  exact this
theorem lat_J {n : Nat} {t : List (List Bool)} (hs : Sq n t) (h : latB t n = true) : IsJ (lq t) n (jnN t n) := fun _ _ hi hj => jn_of hs hi hj (lat_bnd h hi hj).1
theorem lat_M {n : Nat} {t : List (List Bool)} (h : latB t n = true) : IsJ (lq (invT n t)) n (jnN (invT n t) n) := fun _ _ hi hj => jn_of Sq.inv hi hj (lat_bnd h hi hj).2
end Go.AM

namespace Go.Proofs.B
open Go.AM Go
set_option maxRecDepth 100000
set_option maxHeartbeats 4000000
end Go.Proofs.B

/- A long region may be run in two parts. -/
namespace Go.AM
end Go.AM

namespace Go.Proofs.B
open Go.AM Go
set_option maxRecDepth 100000
set_option maxHeartbeats 8000000
end Go.Proofs.B

/- The irreducibles of an order; Birkhoff's theorem, plainly. -/
namespace Go.AM
/-- There is a greatest one among what is less. -/
def Irr (n : Nat) (t : List (List Bool)) (j : Nat) : Prop := ∃ u, u < n ∧ atT t u j = true ∧ ∀ x, x < n → atT t x j = true → lq t x u = true
theorem covB_iff {n : Nat} {t : List (List Bool)} {i j : Nat} : covB n t i j = true ↔ atT t i j = true ∧ ∀ k, k < n → atT t i k = true → atT t k j = false := by
  unfold covB
  rw [Bool.and_eq_true, Bool.not_eq_true', List.any_eq_false]
  refine and_congr_right fun _ => ⟨fun h k hk h1 => ?_, fun h k hk h1 => ?_⟩
  · have := h k (List.mem_range.2 hk)
    rw [h1, Bool.true_and] at this
    simpa using this
  · rw [Bool.and_eq_true] at h1
    rw [h k (List.mem_range.1 hk) h1.1] at h1
    cases h1.2
theorem one_len {l : List Nat} {u : Nat} (h : l.Nodup) (hm : ∀ a, a ∈ l ↔ a = u) : l.length = 1 := by
  have := ((List.perm_ext_iff_of_nodup h (List.nodup_cons.2 ⟨List.not_mem_nil (a := u), List.nodup_nil⟩)).2 fun a => by rw [hm, List.mem_singleton]).length_eq
  exact this
theorem irr_iff {n : Nat} {t : List (List Bool)} (hs : Sq n t) (hp : IsPo n t) {j : Nat} (hj : j < n) : ((List.range n).filter fun r => atT (covT n t) r j).length = 1 ↔ Irr n t j := by
  have hc : ∀ r, r < n → (atT (covT n t) r j = true ↔ atT t r j = true ∧ ∀ k, k < n → atT t r k = true → atT t k j = false) := fun r hr => by rw [atT_cov hs hp hr hj, covB_iff]
  constructor
  · intro h
    obtain ⟨u, hu⟩ := List.length_eq_one_iff.1 h
    have hm : ∀ r, r ∈ (List.range n).filter (fun r => atT (covT n t) r j) ↔ r = u := fun r => by rw [hu, List.mem_singleton]
    have hmu := (hm u).2 rfl
    rw [List.mem_filter, List.mem_range] at hmu
    have h1 := (hc u hmu.1).1 hmu.2
    refine ⟨u, hmu.1, h1.1, fun x hx hxj => ?_⟩
    have hg : ∀ i, i < n → (setR n fun x => atT t x j).getD i false = atT t i j := fun i hi => setR_get hi
    obtain ⟨k, hk, hkx⟩ := max_of hp (b := setR n fun x => atT t x j) hx (by rw [hg x hx]; exact hxj)
    obtain ⟨hkn, hkb⟩ := mem_bk.1 hk
    obtain ⟨hk1, hk2⟩ := bkP_iff.1 hkb
    rw [hg k hkn] at hk1
    have hku : k = u := (hm k).1 (List.mem_filter.2 ⟨List.mem_range.2 hkn, (hc k hkn).2 ⟨hk1, fun q hq h => by rw [← hg q hq]; exact hk2 q hq h⟩⟩)
    subst hku
    unfold lq
    rcases hkx with rfl | hkx
    · simp
    · rw [hkx]; simp
  · rintro ⟨u, hu, h1, h2⟩
    refine one_len (List.nodup_range.sublist List.filter_sublist) (u := u) fun r => ?_
    rw [List.mem_filter, List.mem_range]
    constructor
    · rintro ⟨hr, hcr⟩
      obtain ⟨h3, h4⟩ := (hc r hr).1 hcr
      have h5 := h2 r hr h3
      unfold lq at h5
      rw [Bool.or_eq_true, decide_eq_true_eq] at h5
      rcases h5 with h5 | h5
      · exact h5
      · rw [h4 u hu h5] at h1; cases h1
    · rintro rfl
      refine ⟨hu, (hc r hu).2 ⟨h1, fun k hk h3 => ?_⟩⟩
      cases h4 : atT t k j
      · rfl
      · exfalso
        have h5 := h2 k hk h4
        unfold lq at h5
        rw [Bool.or_eq_true, decide_eq_true_eq] at h5
        rcases h5 with rfl | h5
        · rw [hp.irr k hk] at h3; cases h3
        · have := hp.trans r k r hu hk hu h3 h5
          rw [hp.irr r hu] at this; cases this
theorem at_lq {n : Nat} {t : List (List Bool)} (hp : IsPo n t) {i j : Nat} (hi : i < n) : atT t i j = (lq t i j && decide (i ≠ j)) := by
  unfold lq
  by_cases e : i = j
  · subst e; rw [hp.irr i hi]; simp
  · simp [e]
/-- Irreducible, by the order alone. -/
def IrQ (q : Nat → Nat → Bool) (n j : Nat) : Prop := ∃ u, u < n ∧ q u j = true ∧ u ≠ j ∧ ∀ x, x < n → q x j = true → x ≠ j → q x u = true
theorem irQ_iff {n : Nat} {t : List (List Bool)} (hp : IsPo n t) {j : Nat} : Irr n t j ↔ IrQ (lq t) n j := by
  have hs : ∀ x, x < n → (atT t x j = true ↔ lq t x j = true ∧ x ≠ j) := fun x hx => by rw [at_lq hp hx, Bool.and_eq_true, decide_eq_true_eq]
  constructor
  · rintro ⟨u, hu, h1, h2⟩
    exact ⟨u, hu, ((hs u hu).1 h1).1, ((hs u hu).1 h1).2, fun x hx h3 h4 => h2 x hx ((hs x hx).2 ⟨h3, h4⟩)⟩
  · rintro ⟨u, hu, h1, h2, h3⟩
    exact ⟨u, hu, (hs u hu).2 ⟨h1, h2⟩, fun x hx h4 => h3 x hx ((hs x hx).1 h4).1 ((hs x hx).1 h4).2⟩
/-- A lattice: joins and meets. -/
structure Ltc (q : Nat → Nat → Bool) (n : Nat) (J M : Nat → Nat → Nat) : Prop where
  po : PoQ q n
  j : IsJ q n J
  m : ∀ i j, i < n → j < n → M i j < n ∧ ∀ x, x < n → q x (M i j) = (q x i && q x j)
def DisJ (n : Nat) (J M : Nat → Nat → Nat) : Prop := ∀ a b c, a < n → b < n → c < n → M a (J b c) = J (M a b) (M a c)
theorem Ltc.mle {q : Nat → Nat → Bool} {n : Nat} {J M : Nat → Nat → Nat} (L : Ltc q n J M) {i j : Nat} (hi : i < n) (hj : j < n) : q (M i j) i = true ∧ q (M i j) j = true := by
  have h := L.m i j hi hj
  have h2 := h.2 _ h.1
  rw [L.po.refl, eq_comm, Bool.and_eq_true] at h2
  exact h2
theorem Ltc.bot {q : Nat → Nat → Bool} {n : Nat} {J M : Nat → Nat → Nat} (L : Ltc q n J M) (h0 : 0 < n) : ∃ b, b < n ∧ ∀ y, y < n → q b y = true := by
  have key : ∀ m, m ≤ n → ∃ b, b < n ∧ ∀ y, y < m → q b y = true := by
    intro m
    induction m with
    | zero => intro _; exact ⟨0, h0, fun y hy => by omega⟩
    | succ m ih =>
      intro hm
      obtain ⟨b, hb, h⟩ := ih (by omega)
      have hM := L.m b m hb (by omega)
      have hle := L.mle hb (show m < n by omega)
      refine ⟨M b m, hM.1, fun y hy => ?_⟩
      rcases Nat.lt_succ_iff_lt_or_eq.1 hy with h1 | rfl
      · exact L.po.trans _ b y hM.1 hb (by omega) hle.1 (h y h1)
      · exact hle.2
  exact key n (Nat.le_refl _)
theorem Ltc.prime {q : Nat → Nat → Bool} {n : Nat} {J M : Nat → Nat → Nat} (L : Ltc q n J M) (hd : DisJ n J M) {j a b : Nat} (hj : j < n) (ha : a < n) (hb : b < n) (hi : IrQ q n j) (h : q j (J a b) = true) : q j a = true ∨ q j b = true := by
  obtain ⟨u, hu, h1, h2, h3⟩ := hi
  have hJ := L.j a b ha hb
  have hM := L.m j (J a b) hj hJ.1
  have e1 : M j (J a b) = j := L.po.anti _ _ hM.1 hj (L.mle hj hJ.1).1 (by rw [hM.2 j hj, L.po.refl, h]; rfl)
  rw [hd j a b hj ha hb] at e1
  have hMa := L.m j a hj ha
  have hMb := L.m j b hj hb
  by_cases ea : M j a = j
  · left; rw [← ea]; exact (L.mle hj ha).2
  · by_cases eb : M j b = j
    · right; rw [← eb]; exact (L.mle hj hb).2
    · exfalso
      have h4 := h3 _ hMa.1 (L.mle hj ha).1 ea
      have h5 := h3 _ hMb.1 (L.mle hj hb).1 eb
      have hJ2 := L.j (M j a) (M j b) hMa.1 hMb.1
      have h6 := hJ2.2 u hu
      rw [e1, h4, h5] at h6
      exact h2 (L.po.anti u j hu hj h1 h6)
/-- Joins of lists. -/
theorem Ltc.join {q : Nat → Nat → Bool} {n : Nat} {J M : Nat → Nat → Nat} (L : Ltc q n J M) (h0 : 0 < n) (hd : DisJ n J M) : ∀ l : List Nat, (∀ a ∈ l, a < n) → ∃ x, x < n ∧ (∀ y, y < n → (q x y = true ↔ ∀ a ∈ l, q a y = true)) ∧ ∀ j, j < n → IrQ q n j → q j x = true → ∃ a, a ∈ l ∧ q j a = true
  | [], _ => by
    obtain ⟨b, hb, h⟩ := L.bot h0
    refine ⟨b, hb, fun y hy => ⟨fun _ a ha => (List.not_mem_nil ha).elim, fun _ => h y hy⟩, fun j hj ⟨u, hu, h1, h2, h3⟩ hjb => ?_⟩
    exact absurd (L.po.anti u j hu hj h1 (L.po.trans j b u hj hb hu hjb (h u hu))) h2
  | a :: l, hl => by
    have ha := hl a (by simp)
    obtain ⟨x, hx, h1, h2⟩ := L.join h0 hd l fun b hb => hl b (by simp [hb])
    have hJ := L.j a x ha hx
    refine ⟨J a x, hJ.1, fun y hy => ?_, fun j hj hi hjx => ?_⟩
    · rw [hJ.2 y hy, Bool.and_eq_true, h1 y hy]
      simp
    · rcases L.prime hd hj ha hx hi hjx with h | h
      · exact ⟨a, by simp, h⟩
      · obtain ⟨b, hb, h3⟩ := h2 j hj hi h
        exact ⟨b, by simp [hb], h3⟩
theorem mem_at {I : List Nat} {j : Nat} (h : j ∈ I) : ∃ k, k < I.length ∧ I.getD k 0 = j := by
  obtain ⟨k, hk, e⟩ := List.getElem_of_mem h
  exact ⟨k, hk, by rw [List.getD_eq_getElem?_getD, List.getElem?_eq_getElem hk]; exact e⟩
theorem subB_refl (b : List Bool) : subB b b = true := subB_iff.2 fun _ _ h => h
end Go.AM

/- Birkhoff's theorem for tables: a lattice and the ideals of its irreducibles; an order and the lattice of its ideals. -/
namespace Go.AM
theorem bnd_is {n : Nat} {t : List (List Bool)} (hs : Sq n t) (hp : IsPo n t) {i j c : Nat} (hi : i < n) (hj : j < n) (hc : c < n) (h : ∀ x, x < n → lq t c x = (lq t i x && lq t j x)) : bndF (upR t n) i j = (c : Nat) := by
  have h0 : 0 ≤ bndF (upR t n) i j := by
    unfold bndF
    rw [← decide_eq_true_iff (p := 0 ≤ _), ixf_ge, List.any_eq_true]
    refine ⟨(upR t n).getD c [], mem_getD (by rw [upR_len]; exact hc) _, decide_eq_true ?_⟩
    refine row_ext (n := n) ?_ (andR_len hs hi hj) fun x hx => ?_
    · rw [upR_get hc, List.length_set, hs.rowLen hc]
    · rw [upR_at hs hc, andR_at hs hi hj hx]; exact h x hx
  have h1 := jn_of hs hi hj h0
  have e : jnN t n i j = c := (lq_po hp).ext h1.1 hc fun x hx => by rw [h1.2 x hx, h x hx]
  unfold jnN at e
  omega
theorem noneT_of {G : List (List Bool)} {n i : Nat} (hG : G.length = n) (hi : i < n) (h : ∀ j, j < n → 0 ≤ bndF G i j) : noneT (bndT G) i = true := by
  unfold noneT
  rw [Bool.not_eq_true', decide_eq_false_iff_not, bndT_row (by omega), List.mem_map, hG]
  rintro ⟨j, hj, e⟩
  have := h j (List.mem_range.1 hj)
  omega
theorem latB_of {n : Nat} {t : List (List Bool)} (h0 : 0 < n) (h : ∀ i j, i < n → j < n → 0 ≤ bndF (upR t n) i j ∧ 0 ≤ bndF (upR (invT n t) n) i j) : latB t n = true := by
  unfold latB
  rw [decide_eq_true h0, Bool.true_and, List.all_eq_true]
  intro i hi
  have hin := List.mem_range.1 hi
  rw [Bool.and_eq_true]
  exact ⟨noneT_of (upR_len ..) hin fun j hj => (h i j hin hj).1, noneT_of (upR_len ..) hin fun j hj => (h i j hin hj).2⟩
/-- The places of a list's members. -/
theorem mem_atL {L : List (List Bool)} {b : List Bool} (h : b ∈ L) : ∃ k, k < L.length ∧ L.getD k [] = b := by
  obtain ⟨k, hk, e⟩ := List.getElem_of_mem h
  exact ⟨k, hk, by rw [List.getD_eq_getElem?_getD, List.getElem?_eq_getElem hk]; exact e⟩
theorem getD_injL {L : List (List Bool)} (h : L.Nodup) {a c : Nat} (ha : a < L.length) (hc : c < L.length) (e : L.getD a [] = L.getD c []) : a = c := by
  have h1 : L[a]'ha = L[c]'hc := by simpa [List.getD_eq_getElem?_getD, List.getElem?_eq_getElem ha, List.getElem?_eq_getElem hc] using e
  rcases Nat.lt_trichotomy a c with hlt | rfl | hlt
  · exact absurd h1 (List.pairwise_iff_getElem.1 h a c ha hc hlt)
  · rfl
  · exact absurd h1.symm (List.pairwise_iff_getElem.1 h c a hc ha hlt)
theorem subB_trans {a b c : List Bool} (hb : b.length = a.length) (h1 : subB a b = true) (h2 : subB b c = true) : subB a c = true :=
  subB_iff.2 fun i hi h => subB_iff.1 h2 i (by omega) (subB_iff.1 h1 i hi h)
theorem subB_anti {a b : List Bool} (hb : b.length = a.length) (h1 : subB a b = true) (h2 : subB b a = true) : a = b :=
  row_ext (n := a.length) rfl hb fun i hi => by
    rw [Bool.eq_iff_iff]
    exact ⟨subB_iff.1 h1 i hi, subB_iff.1 h2 i (by omega)⟩
/-- The order of a list of sets. -/
structure InclOk (n : Nat) (L : List (List Bool)) (E : List (List Bool)) : Prop where
  nd : L.Nodup
  len : ∀ b ∈ L, b.length = n
  sq : Sq L.length E
  at_ : ∀ a b, a < L.length → b < L.length → atT E a b = (decide (a ≠ b) && subB (L.getD a []) (L.getD b []))
theorem InclOk.get {n : Nat} {L E : List (List Bool)} (h : InclOk n L E) {a : Nat} (ha : a < L.length) : (L.getD a []).length = n := h.len _ (mem_getD ha _)
theorem InclOk.lq {n : Nat} {L E : List (List Bool)} (h : InclOk n L E) {a b : Nat} (ha : a < L.length) (hb : b < L.length) : lq E a b = subB (L.getD a []) (L.getD b []) := by
  unfold AM.lq
  rw [h.at_ a b ha hb]
  by_cases e : a = b
  · subst e; simp [subB_refl]
  · simp [e]
theorem InclOk.po {n : Nat} {L E : List (List Bool)} (h : InclOk n L E) : IsPo L.length E := by
  refine ⟨fun i hi => by rw [h.at_ i i hi hi]; simp, fun i j k hi hj hk h1 h2 => ?_⟩
  rw [h.at_ i j hi hj, Bool.and_eq_true, decide_eq_true_eq] at h1
  rw [h.at_ j k hj hk, Bool.and_eq_true, decide_eq_true_eq] at h2
  rw [h.at_ i k hi hk, Bool.and_eq_true, decide_eq_true_eq]
  have li := h.get hi
  have lj := h.get hj
  refine ⟨fun e => ?_, subB_trans (by omega) h1.2 h2.2⟩
  subst e
  exact h1.1 (getD_injL h.nd hi hj (subB_anti (by omega) h1.2 h2.2))
theorem orB_get2 {n : Nat} {a b : List Bool} (ha : a.length = n) (hb : b.length = n) {i : Nat} (hi : i < n) : (List.zipWith (· || ·) a b).getD i false = (a.getD i false || b.getD i false) := by
  simp [List.getD_eq_getElem?_getD, List.getElem?_zipWith, show i < a.length by omega, show i < b.length by omega]
theorem andB_get2 {n : Nat} {a b : List Bool} (ha : a.length = n) (hb : b.length = n) {i : Nat} (hi : i < n) : (List.zipWith (· && ·) a b).getD i false = (a.getD i false && b.getD i false) := by
  simp [List.getD_eq_getElem?_getD, List.getElem?_zipWith, show i < a.length by omega, show i < b.length by omega]
theorem subB_or {n : Nat} {a b c : List Bool} (ha : a.length = n) (hb : b.length = n) : subB (List.zipWith (· || ·) a b) c = (subB a c && subB b c) := by
  have hl : (List.zipWith (· || ·) a b).length = n := by simp [ha, hb]
  rw [Bool.eq_iff_iff, Bool.and_eq_true, subB_iff, subB_iff, subB_iff, hl, ha, hb]
  constructor
  · intro h
    exact ⟨fun i hi h1 => h i hi (by rw [orB_get2 ha hb hi, h1]; rfl), fun i hi h1 => h i hi (by rw [orB_get2 ha hb hi, h1, Bool.or_true])⟩
  · rintro ⟨h1, h2⟩ i hi h3
    rw [orB_get2 ha hb hi, Bool.or_eq_true] at h3
    exact h3.elim (h1 i hi) (h2 i hi)
theorem subB_and {n : Nat} {a b c : List Bool} (ha : a.length = n) (hb : b.length = n) (hc : c.length = n) : subB c (List.zipWith (· && ·) a b) = (subB c a && subB c b) := by
  rw [Bool.eq_iff_iff, Bool.and_eq_true, subB_iff, subB_iff, subB_iff, hc]
  constructor
  · intro h
    have h' : ∀ i, i < n → c.getD i false = true → a.getD i false = true ∧ b.getD i false = true := fun i hi h1 => by
      have := h i hi h1
      rw [andB_get2 ha hb hi, Bool.and_eq_true] at this
      exact this
    exact ⟨fun i hi h1 => (h' i hi h1).1, fun i hi h1 => (h' i hi h1).2⟩
  · rintro ⟨h1, h2⟩ i hi h3
    rw [andB_get2 ha hb hi, h1 i hi h3, h2 i hi h3]; rfl
/-- Joins are unions, meets are intersections. -/
theorem InclOk.jn {n : Nat} {L E : List (List Bool)} (h : InclOk n L E) (hor : ∀ a b, a ∈ L → b ∈ L → List.zipWith (· || ·) a b ∈ L) {a b : Nat} (ha : a < L.length) (hb : b < L.length) : ∃ c, c < L.length ∧ bndF (upR E L.length) a b = (c : Nat) ∧ L.getD c [] = List.zipWith (· || ·) (L.getD a []) (L.getD b []) := by
  obtain ⟨c, hc, e⟩ := mem_atL (hor _ _ (mem_getD ha []) (mem_getD hb []))
  refine ⟨c, hc, bnd_is h.sq h.po ha hb hc fun x hx => ?_, e⟩
  rw [h.lq hc hx, h.lq ha hx, h.lq hb hx, e, subB_or (h.get ha) (h.get hb)]
theorem InclOk.mt {n : Nat} {L E : List (List Bool)} (h : InclOk n L E) (hand : ∀ a b, a ∈ L → b ∈ L → List.zipWith (· && ·) a b ∈ L) {a b : Nat} (ha : a < L.length) (hb : b < L.length) : ∃ c, c < L.length ∧ bndF (upR (invT L.length E) L.length) a b = (c : Nat) ∧ L.getD c [] = List.zipWith (· && ·) (L.getD a []) (L.getD b []) := by
  obtain ⟨c, hc, e⟩ := mem_atL (hand _ _ (mem_getD ha []) (mem_getD hb []))
  refine ⟨c, hc, bnd_is Sq.inv h.po.inv ha hb hc fun x hx => ?_, e⟩
  rw [lq_inv hc hx, lq_inv ha hx, lq_inv hb hx, h.lq hx hc, h.lq hx ha, h.lq hx hb, e, subB_and (h.get ha) (h.get hb) (h.get hx)]
theorem InclOk.lat {n : Nat} {L E : List (List Bool)} (h : InclOk n L E) (hor : ∀ a b, a ∈ L → b ∈ L → List.zipWith (· || ·) a b ∈ L) (hand : ∀ a b, a ∈ L → b ∈ L → List.zipWith (· && ·) a b ∈ L) (h0 : 0 < L.length) : latB E L.length = true :=
  latB_of h0 fun i j hi hj => by
    obtain ⟨c, _, h1, _⟩ := h.jn hor hi hj
    obtain ⟨d, _, h2, _⟩ := h.mt hand hi hj
    omega
theorem InclOk.dis {n : Nat} {L E : List (List Bool)} (h : InclOk n L E) (hor : ∀ a b, a ∈ L → b ∈ L → List.zipWith (· || ·) a b ∈ L) (hand : ∀ a b, a ∈ L → b ∈ L → List.zipWith (· && ·) a b ∈ L) : DisJ L.length (jnN E L.length) (jnN (invT L.length E) L.length) := by
  have hJ : ∀ a b, a < L.length → b < L.length → jnN E L.length a b < L.length ∧ ∀ i, i < n → (L.getD (jnN E L.length a b) []).getD i false = ((L.getD a []).getD i false || (L.getD b []).getD i false) := fun a b ha hb => by
    obtain ⟨c, hc, h1, h2⟩ := h.jn hor ha hb
    unfold jnN
    rw [h1, Int.toNat_natCast]
    exact ⟨hc, fun i hi => by rw [h2, orB_get2 (h.get ha) (h.get hb) hi]⟩
  have hM : ∀ a b, a < L.length → b < L.length → jnN (invT L.length E) L.length a b < L.length ∧ ∀ i, i < n → (L.getD (jnN (invT L.length E) L.length a b) []).getD i false = ((L.getD a []).getD i false && (L.getD b []).getD i false) := fun a b ha hb => by
    obtain ⟨c, hc, h1, h2⟩ := h.mt hand ha hb
    unfold jnN
    rw [h1, Int.toNat_natCast]
    exact ⟨hc, fun i hi => by rw [h2, andB_get2 (h.get ha) (h.get hb) hi]⟩
  intro a b c ha hb hc
  have h1 := hJ b c hb hc
  have h2 := hM a b ha hb
  have h3 := hM a c ha hc
  have h4 := hM a _ ha h1.1
  have h5 := hJ _ _ h2.1 h3.1
  refine getD_injL h.nd h4.1 h5.1 (row_ext (n := n) (h.get h4.1) (h.get h5.1) fun i hi => ?_)
  rw [h4.2 i hi, h1.2 i hi, h5.2 i hi, h2.2 i hi, h3.2 i hi, Bool.and_or_distrib_left]
/-- What lies below an element, with it. -/
def dnB (n : Nat) (t : List (List Bool)) (x : Nat) : List Bool := setR n fun y => lq t y x
theorem dnB_len (n : Nat) (t : List (List Bool)) (x : Nat) : (dnB n t x).length = n := setR_len _ _
theorem dnB_get {n : Nat} {t : List (List Bool)} {x y : Nat} (hy : y < n) : (dnB n t x).getD y false = lq t y x := setR_get hy
theorem dnB_sub {n : Nat} {t : List (List Bool)} (hp : IsPo n t) {x y : Nat} (hx : x < n) (hy : y < n) : subB (dnB n t x) (dnB n t y) = lq t x y := by
  rw [Bool.eq_iff_iff, subB_iff, dnB_len]
  constructor
  · intro h
    have := h x hx (by rw [dnB_get hx]; exact lq_refl t x)
    rw [dnB_get hx] at this; exact this
  · intro h i hi h1
    rw [dnB_get hi] at h1 ⊢
    exact lq_trans hp hi hx hy h1 h
theorem dnB_inj {n : Nat} {t : List (List Bool)} (hp : IsPo n t) {x y : Nat} (hx : x < n) (hy : y < n) (e : dnB n t x = dnB n t y) : x = y :=
  (lq_po hp).anti x y hx hy (by rw [← dnB_sub hp hx hy, e]; exact subB_refl _) (by rw [← dnB_sub hp hy hx, e]; exact subB_refl _)
theorem dnB_id {n : Nat} {t : List (List Bool)} (hp : IsPo n t) {x : Nat} (hx : x < n) : dnB n t x ∈ allU (invT n t) n := by
  rw [mem_allU hp]
  refine ⟨dnB_len .., (idB_iff (dnB_len ..)).2 fun i hi j hj h1 h2 => ?_⟩
  rw [dnB_get hj] at h1
  rw [dnB_get hi]
  exact lq_trans hp hi hj hx (by unfold lq; rw [h2, Bool.or_true]) h1
/-- The ideals' irreducibles are those of the elements. -/
theorem incl_irr {n : Nat} {t E : List (List Bool)} (hp : IsPo n t) (h : InclOk n (allU (invT n t) n) E) {a : Nat} (ha : a < (allU (invT n t) n).length) : IrQ (lq E) (allU (invT n t) n).length a ↔ ∃ x, x < n ∧ (allU (invT n t) n).getD a [] = dnB n t x := by
  have hid : ∀ c, c < (allU (invT n t) n).length → idB n t ((allU (invT n t) n).getD c []) = true := fun c hc => ((mem_allU hp _).1 (mem_getD hc [])).2
  have hdn := fun x hx => mem_atL (dnB_id hp (x := x) hx)
  have hmem := mem_allU hp
  generalize allU (invT n t) n = L at *
  constructor
  · rintro ⟨u, hu, h1, h2, h3⟩
    rw [h.lq hu ha] at h1
    have lu := h.get hu
    have la := h.get ha
    have hex : ∃ x, x < n ∧ (L.getD a []).getD x false = true ∧ (L.getD u []).getD x false = false := by
      apply Classical.byContradiction
      intro hno
      refine h2 (getD_injL h.nd hu ha (subB_anti (by omega) h1 (subB_iff.2 fun i hi h4 => ?_)))
      cases e : (L.getD u []).getD i false
      · exact absurd ⟨i, by omega, h4, e⟩ hno
      · rfl
    obtain ⟨x, hx, h4, h5⟩ := hex
    obtain ⟨c, hc, hcx⟩ := hdn x hx
    refine ⟨x, hx, ?_⟩
    have hsub : subB (L.getD c []) (L.getD a []) = true := by
      rw [hcx, subB_iff, dnB_len]
      intro i hi h6
      rw [dnB_get hi] at h6
      unfold lq at h6
      rw [Bool.or_eq_true, decide_eq_true_eq] at h6
      rcases h6 with rfl | h6
      · exact h4
      · exact (idB_iff la).1 (hid a ha) i hi x hx h4 h6
    by_cases e : c = a
    · rw [← e]; exact hcx
    · exfalso
      have h7 := h3 c hc (by rw [h.lq hc ha]; exact hsub) e
      rw [h.lq hc hu, hcx, subB_iff, dnB_len] at h7
      have := h7 x hx (by rw [dnB_get hx]; exact lq_refl t x)
      rw [h5] at this; cases this
  · rintro ⟨x, hx, hax⟩
    have hul : (setR n fun y => atT t y x).length = n := setR_len _ _
    have hug : ∀ y, y < n → (setR n fun y => atT t y x).getD y false = atT t y x := fun y hy => setR_get hy
    obtain ⟨u, hu, hux⟩ := mem_atL ((hmem (setR n fun y => atT t y x)).2 ⟨hul, (idB_iff hul).2 fun i hi j hj h1 h2 => by
      rw [hug j hj] at h1
      rw [hug i hi]
      exact hp.trans i j x hi hj hx h2 h1⟩)
    refine ⟨u, hu, ?_, fun e => ?_, fun c hc h1 h2 => ?_⟩
    · rw [h.lq hu ha, hux, hax, subB_iff, hul]
      intro i hi h1
      rw [hug i hi] at h1
      rw [dnB_get hi]
      unfold lq; rw [h1, Bool.or_true]
    · rw [e, hax] at hux
      have h1 := dnB_get (n := n) (t := t) (x := x) hx
      rw [hux, hug x hx, hp.irr x hx, lq_refl] at h1
      cases h1
    · rw [h.lq hc ha, hax] at h1
      rw [h.lq hc hu, hux, subB_iff]
      have lc := h.get hc
      intro i hi h3
      rw [hug i (by omega)]
      have h4 := subB_iff.1 h1 i hi h3
      rw [dnB_get (by omega)] at h4
      unfold lq at h4
      rw [Bool.or_eq_true, decide_eq_true_eq] at h4
      rcases h4 with rfl | h4
      · exfalso
        refine h2 (getD_injL h.nd hc ha ?_)
        rw [hax]
        refine subB_anti (by rw [dnB_len]; omega) h1 (subB_iff.2 fun k hk h5 => ?_)
        rw [dnB_len] at hk
        rw [dnB_get hk] at h5
        unfold lq at h5
        rw [Bool.or_eq_true, decide_eq_true_eq] at h5
        rcases h5 with rfl | h5
        · exact h3
        · exact (idB_iff lc).1 (hid c hc) k hk i (by omega) h3 h5
      · exact h4
theorem dnL_nodup {n : Nat} {t : List (List Bool)} (hp : IsPo n t) : ((List.range n).map (dnB n t)).Nodup :=
  map_nodup List.nodup_range fun a ha b hb e => dnB_inj hp (List.mem_range.1 ha) (List.mem_range.1 hb) e
/-- As many irreducible ideals as elements, each at its place. -/
theorem incl_irrs {n : Nat} {t E : List (List Bool)} (hp : IsPo n t) (h : InclOk n (allU (invT n t) n) E) {I : List Nat} (hn : I.Nodup) (hI : ∀ j, j ∈ I ↔ j < (allU (invT n t) n).length ∧ IrQ (lq E) (allU (invT n t) n).length j) :
    I.length = n ∧ (∀ x, x < n → ∃ k, k < I.length ∧ (allU (invT n t) n).getD (I.getD k 0) [] = dnB n t x) ∧
    (∀ k l x y, k < I.length → l < I.length → x < n → y < n → (allU (invT n t) n).getD (I.getD k 0) [] = dnB n t x → (allU (invT n t) n).getD (I.getD l 0) [] = dnB n t y → atT (resT E I) k l = atT t x y) := by
  have hir := fun a ha => incl_irr hp h (a := a) ha
  have hdn := fun x hx => mem_atL (dnB_id hp (x := x) hx)
  generalize allU (invT n t) n = L at *
  have hIl : ∀ k, k < I.length → I.getD k 0 < L.length := fun k hk => ((hI _).1 (mem_getD hk 0)).1
  have hmem : ∀ b, b ∈ (I.map fun m => L.getD m []) ↔ b ∈ (List.range n).map (dnB n t) := fun b => by
    rw [List.mem_map, List.mem_map]
    constructor
    · rintro ⟨m, hm, rfl⟩
      have h1 := (hI m).1 hm
      obtain ⟨x, hx, e⟩ := (hir m h1.1).1 h1.2
      exact ⟨x, List.mem_range.2 hx, e.symm⟩
    · rintro ⟨x, hx, rfl⟩
      have hx := List.mem_range.1 hx
      obtain ⟨c, hc, e⟩ := hdn x hx
      exact ⟨c, (hI c).2 ⟨hc, (hir c hc).2 ⟨x, hx, e⟩⟩, e⟩
  have hlen := len_of_mem (map_nodup hn fun a ha b hb e => getD_injL h.nd ((hI a).1 ha).1 ((hI b).1 hb).1 e) (dnL_nodup hp) hmem
  rw [List.length_map, List.length_map, List.length_range] at hlen
  refine ⟨hlen, fun x hx => ?_, fun k l x y hk hl hx hy e1 e2 => ?_⟩
  · obtain ⟨c, hc, e⟩ := hdn x hx
    obtain ⟨k, hk, ek⟩ := mem_at ((hI c).2 ⟨hc, (hir c hc).2 ⟨x, hx, e⟩⟩)
    exact ⟨k, hk, by rw [ek]; exact e⟩
  · rw [resT_at hk hl, h.at_ _ _ (hIl k hk) (hIl l hl), e1, e2, dnB_sub hp hx hy, at_lq hp hx, Bool.and_comm]
    congr 1
    refine decide_eq_decide.2 (not_congr ⟨fun e => ?_, fun e => ?_⟩)
    · rw [e, e2] at e1
      exact (dnB_inj hp hy hx e1).symm
    · subst e
      exact getD_injL h.nd (hIl k hk) (hIl l hl) (by rw [e1, e2])
end Go.AM

namespace Go.Proofs.B
open Go.AM Go
set_option maxRecDepth 100000
set_option maxHeartbeats 4000000
theorem setw_eq {a b : List Bool} (hl : b.length = a.length) : (setW a a.length == setW b b.length) = decide (a = b) := by
  rw [Bool.eq_iff_iff, beq_iff_eq, decide_eq_true_eq]
  exact ⟨row_words hl, fun e => by rw [e]⟩
theorem setw_len (b : List Bool) (hb : b.length ≤ 512) : (setW b b.length).length ≤ 100000 := by
  have hwn := wordsN_rng (n := (b.length : Int)) (by omega)
  rw [setW_len']; omega
/-- The closures that compare sets. -/
theorem oclo_r (n : Nat) (hn : n ≤ 512) (L : List (List Bool)) (hL : ∀ b ∈ L, b.length = n) (hl : L.length ≤ 512) (s : List Bool) (hs : s.length = n) (m : Nat) (hm : m < L.length) : Reads Tryz.prog 25 false [.int .i64 (m : Nat), .rptr [.rsl 2 (tabR L)], .rptr (rowB s)] (.bool (decide (L.getD m [] = s))) := by
  have hgm := tabR_get (t := L) (i := m) hm
  have hlm : (L.getD m []).length = n := hL _ (mem_getD hm [])
  have hll := tabR_len L
  rw [show rowT L m = L.getD m [] from rfl] at hgm
  generalize hx : L.getD m [] = x at *
  have heq := eqw_r (setW x x.length) (setW s s.length) (by have := setw_len x (by omega); omega)
  rw [setw_eq (a := x) (b := s) (by omega)] at heq
  unfold rowB at *
  refine Reads.body (rs := [.tmp 4]) Tryz.func25 rfl Tryz.ntmps25 rfl (by simp) ?_
  generalize hQr : retQ _ _ _ = Qr
  refine AW.sg [0,1,2] [] trivial ?_
  refine AW.sd mixed 0 (fun ii => if ii = 16 then some (.reads false (.bool (decide (x = s)))) else none) [4] [] (e2 @hll @hgm) ?_
  repeat with_reducible refine cj ?_ ?_
  all_goals try first | (first | exact heq | (intro hh; exact ⟨hh, heq⟩)) | (intros; (repeat' apply And.intro) <;> first | assumption | (first | exact heq | (intro hh; exact ⟨hh, heq⟩))) | omega | exact chk (by kernel_rfl) | exact ent (by kernel_rfl) | (intro hgd; exact absurd hgd (by decide)) | rfl | (simp only [go_sem, reduceIte, reduceCtorEq, zA, zM, zE, zL, zD, zS, zP, zB, zI, zR, hll, hgm]; done) | (intro _hgd; simp_all [go_sem]; done)
  rw [← hQr]
  refine AW.rt trivial ?_
  exact Wk.of_eq (by rw [decide_eq_true (show (0 : Int) ≤ (m : Nat) by omega), decide_eq_true (show ((m : Nat) : Int) < (L.length : Nat) by omega)]; simp)
theorem ixo_r (n : Nat) (hn : n ≤ 512) (L : List (List Bool)) (hL : ∀ b ∈ L, b.length = n) (hl : L.length ≤ 512) (s : List Bool) (hs : s.length = n) (I : List Nat) (hI0 : ∀ m ∈ I, m < L.length) (hil : I.length ≤ 512) : Reads Tryz.prog 24 false [.rsl 1 (ints (nats I)), .fn 25 [.rptr [.rsl 2 (tabR L)], .rptr (rowB s)]] (.int .i64 (ixf (fun m => decide (L.getD m [] = s)) I)) := by
  have hbp := fun m hm => oclo_r n hn L hL hl s hs m hm
  have hIl : (ints (nats I)).length = I.length := by rw [ints_len, nats_len]
  unfold rowB at *
  generalize setW s s.length = S at *
  refine Reads.body (rs := [.tmp 4]) Tryz.func24 rfl Tryz.ntmps24 rfl (by simp) ?_
  generalize hQr : retQ _ _ _ = Qr
  refine AW.sg [0,1] [] (@hIl) ?_
  refine AW.seq fun K1 hK1 => ?_
  refine AW.sg [0,1,7,8] [] (@hIl) ?_
  refine AW.block ?_
  refine AW.loopE (fun mm ee ss kk => ∃ (j : Nat), I.length - j = mm ∧ ee = [(0, .rsl 1 (ints (nats I))), (1, .fn 25 [.rptr [.rsl 2 (tabR L)], .rptr [.int .i64 s.length, .rsl 1 (words S)]]), (7, .int .i64 I.length), (8, .int .i64 (j : Nat))] ∧ ss = [] ∧ (j ≤ I.length ∧ (I.take j).any (fun m => decide (L.getD m [] = s)) = false)) ?_ ?_
  · exact ⟨_, 0, rfl, eD, eD, eT⟩
  rintro mm ee ss kk ⟨j, rfl, rfl, rfl, hI⟩
  generalize hQl1 : thenQ _ _ = Ql1
  obtain ⟨hj, hall⟩ := hI
  refine AW.sg [0,1,7,8,9] [] (@hIl) ?_
  refine AW.seq fun K2 hK2 => ?_
  refine AW.cn ?_ ?_
  · intro hb
    obtain ⟨m, hx⟩ := getI (l := I) (j := j) (by omega)
    have hgx : (ints (nats I)).getD j [] = [.int .i64 (m : Nat)] := by rw [nats_getD (by omega), getD_of hx]
    have hats := any_take_succ (p := fun m => decide (L.getD m [] = s)) hx
    have hbx := hbp m (hI0 m (List.mem_of_getElem? hx))
    refine AW.skip ?_
    refine hK2 _ _ _ ?_; clear hK2
    refine AW.seq fun K3 hK3 => ?_
    refine AW.block ?_
    refine AW.sg [0,1,5,7,8] [] (@hIl) ?_
    refine AW.so 0 (fun ii => if ii = 5 then some (.reads false (.bool (decide (L.getD m [] = s)))) else none) [0,1,5,7,8,16] [] (e2 @hIl @hgx) ?_
    repeat with_reducible refine cj ?_ ?_
    all_goals try first | (exact hbx) | omega | exact ent (by kernel_rfl)
    refine AW.cn ?_ ?_
    · intro hb
      refine AW.sg [4] [] (@hIl) ?_
      rw [← hQl1, ← hQr]
      refine AW.rt (@hIl) ?_
      exact Wk.of_eq (by rw [ixf_at hx (decide_eq_true hb) hall])
    · intro hb
      refine AW.skip ?_
      refine hK3 _ _ _ ?_; clear hK3
      refine AW.rg [0,1,7,8] [] (@hIl) ?_
      rw [← hQl1]; change Exists _
      exact ⟨_, eO, j + 1, rfl, eD, eD, (⟨by omega, by rw [hats, hall, decide_eq_false hb]; rfl⟩)⟩
  · intro hb
    refine AW.kx [] [] ?_
    rw [← hQl1]
    refine hK1 _ _ _ ?_; clear hK1
    refine AW.sg [4] [] (@hIl) ?_
    rw [← hQr]
    refine AW.rt (@hIl) ?_
    exact Wk.of_eq (by rw [List.take_of_length_le (by omega)] at hall; rw [ixf_none hall])
/-- The order of inclusion. -/
theorem incl_at (L : List (List Bool)) {a b : Nat} (ha : a < L.length) (hb : b < L.length) : atT (inclT L) a b = (decide (a ≠ b) && subB (L.getD a []) (L.getD b [])) := by
  unfold atT rowT inclT
  simp only [List.getD_eq_getElem?_getD, List.getElem?_map, List.getElem?_range ha, Option.map_some, Option.getD_some]
  unfold iR
  simp only [List.getElem?_map, List.getElem?_range hb, Option.map_some, Option.getD_some, decide_eq_true hb, Bool.true_and]
  rfl
theorem incl_ok {n : Nat} {t : List (List Bool)} : InclOk n (allU (invT n t) n) (inclT (allU (invT n t) n)) := ⟨allU_nodup _ _, allU_len, inclT_sq _, fun _ _ ha hb => incl_at _ ha hb⟩
theorem all_or {n : Nat} {t : List (List Bool)} (hp : IsPo n t) : ∀ a b, a ∈ allU (invT n t) n → b ∈ allU (invT n t) n → List.zipWith (· || ·) a b ∈ allU (invT n t) n := fun a b ha hb => by
  obtain ⟨h1, h2⟩ := (mem_allU hp a).1 ha
  obtain ⟨h3, h4⟩ := (mem_allU hp b).1 hb
  exact (mem_allU hp _).2 ⟨by simp [h1, h3], id_union h1 h3 h2 h4⟩
theorem all_and {n : Nat} {t : List (List Bool)} (hp : IsPo n t) : ∀ a b, a ∈ allU (invT n t) n → b ∈ allU (invT n t) n → List.zipWith (· && ·) a b ∈ allU (invT n t) n := fun a b ha hb => by
  obtain ⟨h1, h2⟩ := (mem_allU hp a).1 ha
  obtain ⟨h3, h4⟩ := (mem_allU hp b).1 hb
  exact (mem_allU hp _).2 ⟨by simp [h1, h3], id_inter h1 h3 h2 h4⟩
theorem all_pos {n : Nat} {t : List (List Bool)} (hp : IsPo n t) : 0 < (allU (invT n t) n).length :=
  List.length_pos_of_mem ((mem_allU hp (List.replicate n false)).2 ⟨by simp, id_empty n t⟩)
/-- The tables' entries. -/
theorem jnT_at {n : Nat} {t : List (List Bool)} (hlat : latB t n = true) {a b : Nat} (ha : a < n) (hb : b < n) : ((jnT t n).getD a []).getD b 0 = (jnN t n a b : Nat) := by
  have := (lat_bnd hlat ha hb).1
  unfold jnT jnN
  rw [bndT_at (by rw [upR_len]; exact ha) (by rw [upR_len]; exact hb)]
  omega
theorem mtT_at {n : Nat} {t : List (List Bool)} (hlat : latB t n = true) {a b : Nat} (ha : a < n) (hb : b < n) : ((mtT t n).getD a []).getD b 0 = (jnN (invT n t) n a b : Nat) := by
  have := (lat_bnd hlat ha hb).2
  unfold mtT jnN
  rw [bndT_at (by rw [upR_len]; exact ha) (by rw [upR_len]; exact hb)]
  omega
theorem dsP_eq {n : Nat} {t : List (List Bool)} (hs : Sq n t) (hlat : latB t n = true) {a b c : Nat} (ha : a < n) (hb : b < n) (hc : c < n) : dsP (jnT t n) (mtT t n) a b c = decide (jnN (invT n t) n a (jnN t n b c) = jnN t n (jnN (invT n t) n a b) (jnN (invT n t) n a c)) := by
  have hJ := lat_J hs hlat
  have hM := lat_M hlat
  unfold dsP dsL dsR
  rw [jnT_at hlat hb hc, mtT_at hlat ha hb, mtT_at hlat ha hc, Int.toNat_natCast, Int.toNat_natCast, Int.toNat_natCast, mtT_at hlat ha (hJ b c hb hc).1, jnT_at hlat (hM a b ha hb).1 (hM a c ha hc).1]
  exact decide_eq_decide.2 (by omega)
/-- The irreducibles, as the program finds them. -/
theorem irrL_iff {n : Nat} {t : List (List Bool)} (hs : Sq n t) (hp : IsPo n t) (j : Nat) : j ∈ irrL (covT n t) n n ↔ j < n ∧ IrQ (lq t) n j := by
  unfold irrL cntC
  rw [List.mem_filter, List.mem_range, decide_eq_true_eq]
  refine and_congr_right fun hj => ?_
  rw [irr_iff hs hp hj, irQ_iff hp]
theorem irrL_nodup (C : List (List Bool)) (n : Nat) : (irrL C n n).Nodup := List.nodup_range.sublist List.filter_sublist
theorem rrvalid_g (n : Nat) (t : List (List Bool)) (hs : Sq n t) (hn : n ≤ 512) : Reads Tryz.prog 16 false [relB t] (.bool true) := by
  have h := rrvalid_r (t.map SB) (by simp [hs.len]; omega) (fun x hx => by
    obtain ⟨b, hb, rfl⟩ := List.mem_map.1 hx
    have := hs.row b hb
    have hwn := wordsN_rng (n := (b.length : Int)) (by omega)
    show (setW b b.length).length ≤ _
    rw [setW_len']; omega)
  rw [valid_tab hs hn, ← relB_SB] at h
  exact h
/-- Places, found one after the other. -/
def plL (P : Nat → Nat) (n x : Nat) : List Nat := (List.range n).map fun q => if q < x then P q else 0
theorem plL_len (P : Nat → Nat) (n x : Nat) : (plL P n x).length = n := by simp [plL]
theorem plL_zero (P : Nat → Nat) (n : Nat) : plL P n 0 = List.replicate n 0 := by
  unfold plL
  refine List.ext_getElem (by simp) fun i h1 h2 => by simp
theorem plL_set {P : Nat → Nat} {n x : Nat} (hx : x < n) : (plL P n x).set x (P x) = plL P n (x + 1) := by
  refine List.ext_getElem (by simp [plL]) fun q h1 h2 => ?_
  rw [List.getElem_set]
  simp only [plL, List.getElem_map, List.getElem_range]
  by_cases e : x = q
  · subst e; simp
  · rw [if_neg e]
    by_cases h : q < x
    · rw [if_pos h, if_pos (by omega)]
    · rw [if_neg h, if_neg (by omega)]
theorem plL_get {P : Nat → Nat} {n q : Nat} (hq : q < n) : (plL P n n).getD q 0 = P q := by
  unfold plL
  simp [List.getD_eq_getElem?_getD, hq]
theorem nats_set (l : List Nat) (i v : Nat) : (ints (nats l)).set i [.int .i64 (v : Nat)] = ints (nats (l.set i v)) := by
  unfold ints nats
  simp [List.map_set]
theorem nats_rep (n : Nat) : List.replicate n [AV.int .i64 0] = ints (nats (List.replicate n 0)) := by simp [ints, nats]
/-- What lies below, as a list that grows. -/
def belL (t : List (List Bool)) (x y : Nat) : List Nat := x :: (List.range y).filter fun q => atT t q x
theorem belL_succ (t : List (List Bool)) (x y : Nat) : belL t x (y + 1) = if atT t y x = true then belL t x y ++ [y] else belL t x y := by
  unfold belL
  rw [List.range_succ, List.filter_append]
  simp only [List.filter_cons, List.filter_nil]
  split <;> simp
theorem belL_le (t : List (List Bool)) (x y : Nat) : (belL t x y).length ≤ y + 1 := by
  unfold belL
  have := List.length_filter_le (fun q => atT t q x) (List.range y)
  simp at this ⊢
  omega
theorem belL_row {n : Nat} {t : List (List Bool)} {x : Nat} : rowL n (nats (belL t x n)) = dnB n t x := by
  unfold nats dnB
  rw [rowL_nats]
  refine setR_ext fun i hi => ?_
  unfold belL lq
  rw [Bool.eq_iff_iff, decide_eq_true_eq, List.mem_cons, List.mem_filter, List.mem_range, Bool.or_eq_true, decide_eq_true_eq]
  exact or_congr_right ⟨fun h => h.2, fun h => ⟨hi, h⟩⟩
theorem belL_lt {n : Nat} {t : List (List Bool)} {x : Nat} (hx : x < n) : ∀ z ∈ nats (belL t x n), 0 ≤ z ∧ z < n := fun z hz => by
  obtain ⟨q, hq, rfl⟩ := List.mem_map.1 hz
  unfold belL at hq
  rcases List.mem_cons.1 hq with rfl | hq
  · omega
  · have := List.mem_range.1 (List.mem_filter.1 hq).1
    omega
end Go.Proofs.B

namespace Go.Proofs.B
open Go.AM Go
set_option maxRecDepth 100000
set_option maxHeartbeats 8000000
theorem ixf_spec {α : Type} {p : α → Bool} {l : List α} {d : α} (h : ∃ k, k < l.length ∧ p (l.getD k d) = true) : ∃ k, k < l.length ∧ ixf p l = (k : Nat) ∧ p (l.getD k d) = true := by
  obtain ⟨k, hk, hp⟩ := h
  have hm : l.getD k d ∈ l := mem_getD hk d
  have hany : l.any p = true := List.any_eq_true.2 ⟨_, hm, hp⟩
  have hlt := List.findIdx_lt_length_of_exists (p := p) (xs := l) ⟨_, hm, hp⟩
  refine ⟨l.findIdx p, hlt, by unfold ixf; rw [if_pos hany], ?_⟩
  have := List.findIdx_getElem (w := hlt)
  rw [List.getD_eq_getElem?_getD, List.getElem?_eq_getElem hlt]
  exact this
/-- What is true of the lattice of an order's ideals. -/
theorem ord_all (n : Nat) (t : List (List Bool)) (hp : IsPo n t) : ∃ (L E : List (List Bool)) (I : List Nat) (Q : List (List Bool)) (P : Nat → Nat),
    L = allU (invT n t) n ∧ E = inclT L ∧ I = irrL (covT L.length E) L.length L.length ∧ Q = resT E I ∧ 0 < L.length ∧ Sq L.length E ∧ poB L.length E = true ∧ latB E L.length = true ∧
    (∀ a, a < L.length → ∀ b, b < L.length → ∀ c, c < L.length → dsP (jnT E L.length) (mtT E L.length) a b c = true) ∧ I.length = n ∧ (∀ m ∈ I, m < L.length) ∧ Sq n Q ∧
    (∀ x, x < n → P x < n ∧ ixf (fun m => decide (L.getD m [] = dnB n t x)) I = (P x : Nat)) ∧ (∀ x y, x < n → y < n → atT Q (P x) (P y) = atT t x y) ∧
    (∀ a b, a < L.length → b < L.length → ∃ c, c < L.length ∧ bndF (upR E L.length) a b = (c : Nat) ∧ L.getD c [] = List.zipWith (· || ·) (L.getD a []) (L.getD b [])) ∧
    (∀ a b, a < L.length → b < L.length → ∃ c, c < L.length ∧ bndF (upR (invT L.length E) L.length) a b = (c : Nat) ∧ L.getD c [] = List.zipWith (· && ·) (L.getD a []) (L.getD b [])) := by
  have hok := incl_ok (n := n) (t := t)
  have hor := all_or hp
  have hand := all_and hp
  have hlat := hok.lat hor hand (all_pos hp)
  have hdis := hok.dis hor hand
  have hir := irrL_iff hok.sq hok.po
  obtain ⟨h1, h2, h3⟩ := incl_irrs hp hok (irrL_nodup (covT (allU (invT n t) n).length (inclT (allU (invT n t) n))) _) hir
  have hpl : ∀ x, x < n → ∃ k, k < (irrL (covT (allU (invT n t) n).length (inclT (allU (invT n t) n))) (allU (invT n t) n).length (allU (invT n t) n).length).length ∧ ixf (fun m => decide ((allU (invT n t) n).getD m [] = dnB n t x)) (irrL (covT (allU (invT n t) n).length (inclT (allU (invT n t) n))) (allU (invT n t) n).length (allU (invT n t) n).length) = (k : Nat) ∧ decide ((allU (invT n t) n).getD ((irrL (covT (allU (invT n t) n).length (inclT (allU (invT n t) n))) (allU (invT n t) n).length (allU (invT n t) n).length).getD k 0) [] = dnB n t x) = true := fun x hx => by
    obtain ⟨k, hk, e⟩ := h2 x hx
    exact ixf_spec (d := 0) ⟨k, hk, decide_eq_true e⟩
  refine ⟨_, _, _, _, fun x => (ixf (fun m => decide ((allU (invT n t) n).getD m [] = dnB n t x)) (irrL (covT (allU (invT n t) n).length (inclT (allU (invT n t) n))) (allU (invT n t) n).length (allU (invT n t) n).length)).toNat, rfl, rfl, rfl, rfl, all_pos hp, hok.sq, (poB_iff hok.sq).2 hok.po, hlat, fun a ha b hb c hc => ?_, h1, fun m hm => ((hir m).1 hm).1, ?_, fun x hx => ?_, fun x y hx hy => ?_, fun a b ha hb => hok.jn hor ha hb, fun a b ha hb => hok.mt hand ha hb⟩
  · rw [dsP_eq hok.sq hlat ha hb hc]
    exact decide_eq_true (hdis a b c ha hb hc)
  · have := resT_sq (inclT (allU (invT n t) n)) (irrL (covT (allU (invT n t) n).length (inclT (allU (invT n t) n))) (allU (invT n t) n).length (allU (invT n t) n).length)
    rw [h1] at this
    exact this
  · obtain ⟨k, hk, e, _⟩ := hpl x hx
    rw [h1] at hk
    refine ⟨?_, ?_⟩
    · show (ixf _ _).toNat < n
      rw [e, Int.toNat_natCast]; exact hk
    · show ixf _ _ = ((ixf _ _).toNat : Nat)
      rw [e, Int.toNat_natCast]
  · obtain ⟨k, hk, e, ek⟩ := hpl x hx
    obtain ⟨l, hl, f, fl⟩ := hpl y hy
    show atT _ (ixf _ _).toNat (ixf _ _).toNat = _
    rw [e, f, Int.toNat_natCast, Int.toNat_natCast]
    exact h3 k l x y hk hl hx hy (of_decide_eq_true ek) (of_decide_eq_true fl)
theorem orders_0 (rs : List USet) (hl : longR rs) (b : Bool) (ho : Reads Tryz.prog 11 false [relV rs] (.bool b)) (i j : Int) (h : 7 < rs.length ∨ greatB rs = true ∨ b = false) : Reads Tryz.prog 3 false [relV rs, .int .u16 i, .int .u16 j] (.bool true) := by
  have ha := awake_r
  have hg := great_r rs hl
  have hll := hl.1
  have hln : (rs.map rowV).length = rs.length := by simp
  generalize greatB rs = gr at *
  unfold relV at *
  refine Reads.body (rs := [.tmp 6]) Tryz.func3 rfl Tryz.ntmps3 rfl (by simp) ?_
  generalize hQr : retQ _ _ _ = Qr
  refine AW.sg [1,2,3] [3] trivial ?_
  refine AW.seq fun K1 hK1 => ?_
  refine AW.so 0 (fun ii => if ii = 0 then some (.reads false (.bool true)) else none) [1,2,3,36] [3] trivial ?_
  repeat with_reducible refine cj ?_ ?_
  all_goals try first | (exact ha) | omega | exact ent (by kernel_rfl)
  refine AW.cn ?_ ?_
  · intro hb
    exfalso; simp at hb
  · intro hb
    refine AW.skip ?_
    refine hK1 _ _ _ ?_; clear hK1
    refine AW.sg [1,2,3,7] [3] (@hln) ?_
    refine AW.seq fun K2 hK2 => ?_
    refine AW.so 0 (fun ii => if ii = 4 then some (.reads false (.bool gr)) else if ii = 8 then some (.reads false (.bool b)) else none) [1,2,3,7,50] [3] trivial ?_
    repeat with_reducible refine cj ?_ ?_
    all_goals try first | (first | (intro hh; exact ⟨hh, hg⟩) | (intro hh; exact ⟨hh, ho⟩) | exact hg | exact ho) | (intros; (repeat' apply And.intro) <;> first | assumption | (first | (intro hh; exact ⟨hh, hg⟩) | (intro hh; exact ⟨hh, ho⟩) | exact hg | exact ho)) | omega | exact ent (by kernel_rfl) | (intro hgd; exact absurd hgd (by decide)) | rfl | exact gD | (intro _hgd; simp_all [go_sem]; done)
    refine AW.cn ?_ ?_
    · intro hb
      refine AW.sg [6] [] trivial ?_
      rw [← hQr]
      refine AW.rt trivial ?_
      exact Wk.refl _
    · intro hb
      exfalso; rcases h with h | h | h; omega; (subst h; simp at hb); (subst h; simp at hb)
end Go.Proofs.B

namespace Go.Proofs.B
open Go.AM Go
set_option maxRecDepth 100000
set_option maxHeartbeats 16000000
theorem orders_g (n : Nat) (t : List (List Bool)) (hs : Sq n t) (hn7 : n ≤ 7) (hp : poB n t = true) (hf : greatB (t.map SB) = false) (i j : Nat) (hi16 : i ≤ 65535) (hj16 : j ≤ 65535) : Reads Tryz.prog 3 false [relB t, .int .u16 (i : Nat), .int .u16 (j : Nat)] (.bool true) := by
  have hn : n ≤ 512 := by omega
  have ha := awake_r
  have hg := great_r (t.map SB) (longR_SB hs hn)
  rw [hf, ← relB_SB] at hg
  have hpo := (poB_iff hs).1 hp
  have hv := rval_g n t hs hn
  rw [hp] at hv
  have hod := order_r _ _ hv
  have hLn : (allU (invT n t) n).length ≤ 512 := by
    have h1 := allU_le hpo
    have h2 : 2 ^ n ≤ 2 ^ 7 := Nat.pow_le_pow_right (by decide) hn7
    omega
  have hL : ∀ b ∈ allU (invT n t) n, b.length = n := allU_len
  have hid := ideals_g n (tabR t) hn (allU (invT n t) n) hL hLn (countI_ok _ _ _ (list_ok n t hs hn hp (by omega))) (list_ok n t hs hn hp (by omega))
  obtain ⟨L, E, I, Q, P, hL0, hE0, hI0, hQ0, hN0, hsE, hpE, hlE, hdE, hIl, hIm, hsQ, hP, hPQ, hjn, hmt⟩ := ord_all n t hpo
  rw [← hL0] at hLn hL hid
  rw [← hE0] at hid
  have hpoE := (poB_iff hsE).1 hpE
  -- the lattice
  have hall : ((List.range L.length).all fun i => noneT (jnT E L.length) i && noneT (mtT E L.length) i) = true := by
    have := hlE
    unfold latB at this
    rw [Bool.and_eq_true] at this
    exact this.2
  have htb := tables_g L.length E hsE hLn hpE hN0
  rw [show tabV E L.length = .tup [.agg [.rsl 1 (lisR (jnT E L.length)), .rsl 1 (lisR (mtT E L.length))], .bool true] from if_pos hall] at htb
  have hJ : TabOk (jnT E L.length) L.length := tabOk_of (upR_len ..) fun i hi => by
    have := List.all_eq_true.1 hall i (List.mem_range.2 hi)
    rw [Bool.and_eq_true] at this
    exact this.1
  have hM : TabOk (mtT E L.length) L.length := tabOk_of (upR_len ..) fun i hi => by
    have := List.all_eq_true.1 hall i (List.mem_range.2 hi)
    rw [Bool.and_eq_true] at this
    exact this.2
  have hds := dist_ok L.length E hsE _ _ hJ hM hLn _ (.inl ⟨hdE, rfl⟩) htb
  have hil := islat_g L.length E hsE hLn hpE
  rw [hlE] at hil
  have hir := irr_g L.length E hsE hLn hpE hlE
  rw [← hI0, ← hQ0] at hir
  have hvq := rrvalid_g n Q hsQ hn
  -- join and meet
  have hai : i % L.length < L.length := Nat.mod_lt _ hN0
  have hbj : j % L.length < L.length := Nat.mod_lt _ hN0
  have hti : Int.tmod (i : Int) (L.length : Int) = ((i % L.length : Nat) : Int) := (Int.ofNat_tmod i L.length).symm
  have htj : Int.tmod (j : Int) (L.length : Int) = ((j % L.length : Nat) : Int) := (Int.ofNat_tmod j L.length).symm
  have hwi : IntKind.i64.wrap (i : Int) = i := by simp [IntKind.wrap, IntKind.signed, IntKind.bits]; omega
  have hwj : IntKind.i64.wrap (j : Int) = j := by simp [IntKind.wrap, IntKind.signed, IntKind.bits]; omega
  generalize i % L.length = a at *
  generalize j % L.length = b at *
  obtain ⟨up, hup, hupb, hupe⟩ := hjn a b hai hbj
  obtain ⟨dn, hdn, hdnb, hdne⟩ := hmt a b hai hbj
  have hjoin := join_g L.length E hsE hLn hpE (a : Nat) (b : Nat)
  rw [show oneI E L.length (a : Nat) (b : Nat) = .tup [.int .i64 (up : Nat), .int .i64 0] by
    rw [show oneI E L.length (a : Nat) (b : Nat) = oneV (bndF (upR E L.length) a b) from if_pos (by omega), hupb]
    exact if_neg (by omega)] at hjoin
  have hmeet := meet_g L.length E hsE hLn hpE (a : Nat) (b : Nat)
  rw [show oneI (invT L.length E) L.length (a : Nat) (b : Nat) = .tup [.int .i64 (dn : Nat), .int .i64 0] by
    rw [show oneI (invT L.length E) L.length (a : Nat) (b : Nat) = oneV (bndF (upR (invT L.length E) L.length) a b) from if_pos (by omega), hdnb]
    exact if_neg (by omega)] at hmeet
  have hal : (L.getD a []).length = n := hL _ (mem_getD hai [])
  have hbl : (L.getD b []).length = n := hL _ (mem_getD hbj [])
  have hga := tabR_get (t := L) (i := a) hai
  have hgb := tabR_get (t := L) (i := b) hbj
  have hgu := tabR_get (t := L) (i := up) hup
  have hgd := tabR_get (t := L) (i := dn) hdn
  rw [show rowT L a = L.getD a [] from rfl] at hga
  rw [show rowT L b = L.getD b [] from rfl] at hgb
  rw [show rowT L up = L.getD up [] from rfl, hupe] at hgu
  rw [show rowT L dn = L.getD dn [] from rfl, hdne] at hgd
  have hun := union_r (L.getD a []) (L.getD b []) (by omega) (by omega)
  have hint := inter_r (L.getD a []) (L.getD b []) (by omega) (by omega)
  have hul : (List.zipWith (· || ·) (L.getD a []) (L.getD b [])).length = n := by rw [List.length_zipWith, hal, hbl, Nat.min_self]
  have hdl : (List.zipWith (· && ·) (L.getD a []) (L.getD b [])).length = n := by rw [List.length_zipWith, hal, hbl, Nat.min_self]
  generalize List.zipWith (· || ·) (L.getD a []) (L.getD b []) = U at *
  generalize List.zipWith (· && ·) (L.getD a []) (L.getD b []) = D at *
  generalize L.getD a [] = A at *
  generalize L.getD b [] = B at *
  have heU := eqw_r (setW U U.length) (setW U U.length) (by have := setw_len U (by omega); omega)
  have heD := eqw_r (setW D D.length) (setW D D.length) (by have := setw_len D (by omega); omega)
  rw [beq_self_eq_true] at heU heD
  -- the tables
  have htab := (table_r n t hs hn).old
  have htabQ := (table_r n Q hsQ hn).old
  have hof : ∀ x, x < n → Reads Tryz.prog 23 true [.int .i64 n, .rsl 1 (ints (nats (belL t x n)))] (.tup [.agg (rowB (dnB n t x)), .int .i64 ((0 : Nat) : Int)]) := fun x hx => by
    have := ofRow_r n (nats (belL t x n)) hn (by rw [nats_len]; have := belL_le t x n; omega) (belL_lt hx)
    rw [belL_row] at this
    exact this
  have hix : ∀ x, x < n → Reads Tryz.prog 24 true [.rsl 1 (ints (nats I)), .fn 25 [.rptr [.rsl 2 (tabR L)], .rptr (rowB (dnB n t x))]] (.int .i64 (P x : Nat)) := fun x hx => by
    have := Reads.flat (ixo_r n hn L hL hLn (dnB n t x) (dnB_len ..) I hIm (by omega)) rfl
    rw [(hP x hx).2] at this
    exact this
  have hPl : ∀ x, x < n → P x < n := fun x hx => (hP x hx).1
  have hdnl : ∀ x, (dnB n t x).length = n := fun x => dnB_len ..
  have hLl := tabR_len L
  have hEl : (tabR E).length = L.length := by rw [tabR_len, hsE.len]
  have hQl : (tabR Q).length = n := by rw [tabR_len, hsQ.len]
  have hIi : (ints (nats I)).length = n := by rw [ints_len, nats_len, hIl]
  have hlt : (tabR t).length = n := by rw [tabR_len, hs.len]
  have hrl : (rowsR t).length = n := by rw [rowsR_len, hs.len]
  have hrq : (rowsR Q).length = n := by rw [rowsR_len, hsQ.len]
  have hsl := hs.len
  have hsql := hsQ.len
  have hgr := fun x (hx : x < n) => rowsR_get (t := t) (i := x) (by omega)
  have hgq := fun x (hx : x < n) => rowsR_get (t := Q) (i := x) (by omega)
  have hbr : ∀ a c, a < n → c < n → (bools (rowT t a)).getD c [] = [.bool (atT t a c)] := fun a c ha hc => bools_getD (l := rowT t a) (i := c) (by rw [hs.rowLen ha]; exact hc)
  have hbq : ∀ a c, a < n → c < n → (bools (rowT Q a)).getD c [] = [.bool (atT Q a c)] := fun a c ha hc => bools_getD (l := rowT Q a) (i := c) (by rw [hsQ.rowLen ha]; exact hc)
  have hblr : ∀ a, a < n → (bools (rowT t a)).length = n := fun a ha => by rw [bools_len, hs.rowLen ha]
  have hblq : ∀ a, a < n → (bools (rowT Q a)).length = n := fun a ha => by rw [bools_len, hsQ.rowLen ha]
  have hbls := fun x y => belL_succ t x y
  have hble := fun x y => belL_le t x y
  have hplz : List.replicate n [AV.int .i64 0] = ints (nats (plL P n 0)) := by rw [plL_zero, nats_rep]
  have hpls := fun x (hx : x < n) => plL_set (P := P) hx
  have hpll := fun x => plL_len P n x
  have hplg := fun x (hx : x < n) => plL_get (P := P) hx
  generalize hplE : plL P n = pl at *
  generalize hdnE : dnB n t = dB at *
  clear hL0 hE0 hI0 hQ0 hjn hmt hdE hJ hM hall htb hIm hP hupb hupe hdnb hdne hpE hlE hpoE hsE hpo hal hbl
  unfold relB rowB at *
  rw [hul] at hgu hun heU
  rw [hdl] at hgd hint heD
  generalize setW U n = WU at *
  generalize setW D n = WD at *
  generalize rowsR t = R at *
  generalize rowsR Q = RQ at *
  generalize hN : L.length = N at *
  have q7 : decide ((7 : Int) < (n : Nat)) = false := decide_eq_false (by omega)
  have qnn : decide (((n : Nat) : Int) = (n : Nat)) = true := decide_eq_true rfl
  have qNN : decide (((N : Nat) : Int) = (N : Nat)) = true := decide_eq_true rfl
  have qN0 : decide (((N : Nat) : Int) = 0) = false := decide_eq_false (by omega)
  have qu0 : decide (((up : Nat) : Int) < 0) = false := decide_eq_false (by omega)
  have qu1 : decide (((N : Nat) : Int) ≤ (up : Nat)) = false := decide_eq_false (by omega)
  have qd0 : decide (((dn : Nat) : Int) < 0) = false := decide_eq_false (by omega)
  have qd1 : decide (((N : Nat) : Int) ≤ (dn : Nat)) = false := decide_eq_false (by omega)
  have qP0 : ∀ x, decide (((P x : Nat) : Int) < 0) = false := fun x => decide_eq_false (by omega)
  refine Reads.body (rs := [.tmp 6]) Tryz.func3 rfl Tryz.ntmps3 rfl (by simp) ?_
  generalize hQr : retQ _ _ _ = Qr
  refine AW.sg [1,2,3] [3] trivial ?_
  refine AW.seq fun K1 hK1 => ?_
  refine AW.so 0 (fun ii => if ii = 0 then some (.reads false (.bool true)) else none) [1,2,3,36] [3] trivial ?_
  repeat with_reducible refine cj ?_ ?_
  all_goals try first | (exact ha) | omega | exact ent (by kernel_rfl)
  refine AW.cn ?_ ?_
  · intro hb
    exfalso; simp at hb
  · intro hb
    refine AW.skip ?_
    refine hK1 _ _ _ ?_; clear hK1
    refine AW.sg [1,2,3,7] [3] (@hlt) ?_
    refine AW.seq fun K2 hK2 => ?_
    refine AW.so 0 (fun ii => if ii = 4 then some (.reads false (.bool false)) else if ii = 8 then some (.reads false (.bool true)) else none) [1,2,3,7,50] [3] (e2 @hlt @q7) ?_
    repeat with_reducible refine cj ?_ ?_
    all_goals try first | (first | (intro hh; exact ⟨hh, hg⟩) | (intro hh; exact ⟨hh, hod⟩) | exact hg | exact hod) | (intros; (repeat' apply And.intro) <;> first | assumption | (first | (intro hh; exact ⟨hh, hg⟩) | (intro hh; exact ⟨hh, hod⟩) | exact hg | exact hod)) | omega | exact ent (by kernel_rfl) | (intro hgd; exact absurd hgd (by decide)) | rfl | (simp only [go_sem, reduceIte, reduceCtorEq, zA, zM, zE, zL, zD, zS, zP, zB, zI, zR, hlt, q7]; done) | (intro _hgd; simp_all [go_sem]; done)
    refine AW.cn ?_ ?_
    · intro hb
      exfalso; first | omega | (simp at hb <;> omega)
    · intro hb
      refine AW.skip ?_
      refine hK2 _ _ _ ?_; clear hK2
      refine AW.so 0 (fun ii => if ii = 1 then some (.reads false (.tup [.agg [.rsl 2 (tabR E)], .rsl 2 (tabR L), .int .i64 ((0 : Nat) : Int)])) else none) [1,2,3,7,8,9,10] [3,8,9] trivial ?_
      repeat with_reducible refine cj ?_ ?_
      all_goals try first | (exact hid) | omega | exact ent (by kernel_rfl)
      refine AW.seq fun K3 hK3 => ?_
      refine AW.sg [1,2,3,7,8,9,71] [3,8,9] (e5 @hLl @hEl @hN @qN0 @qNN) ?_
      repeat with_reducible refine cj ?_ ?_
      all_goals try first | omega | (intros; (repeat' apply And.intro) <;> first | assumption | omega | decide) | (intro hgd; exact absurd hgd (by decide)) | rfl | (simp only [go_sem, reduceIte, reduceCtorEq, zA, zM, zE, zL, zD, zS, zP, zB, zI, zR, hLl, hEl, hN, qN0, qNN]; done) | (intro _hgd; simp_all [go_sem]; done)
      refine AW.cn ?_ ?_
      · intro hb
        exfalso; first | omega | (simp at hb <;> omega)
      · intro hb
        refine AW.skip ?_
        refine hK3 _ _ _ ?_; clear hK3
        refine AW.so 0 (fun ii => if ii = 1 then some (.reads false (.tup [.bool true, .agg [.int .i64 0, .int .i64 0, .int .i64 0], .int .i64 0])) else none) [1,2,3,7,8,9,11,13] [3,8,9] trivial ?_
        repeat with_reducible refine cj ?_ ?_
        all_goals try first | (exact hds) | omega | exact ent (by kernel_rfl)
        refine AW.so 0 (fun ii => if ii = 1 then some (.reads false (.tup [.agg [.rsl 2 (tabR Q)], .rsl 1 (ints (nats I)), .int .i64 ((0 : Nat) : Int)])) else none) [1,2,3,7,8,9,11,13,14,15,16] [3,8,9,14] trivial ?_
        repeat with_reducible refine cj ?_ ?_
        all_goals try first | (exact hir) | omega | exact ent (by kernel_rfl)
        refine AW.seq fun K4 hK4 => ?_
        refine AW.so 0 (fun ii => if ii = 1 then some (.reads false (.bool true)) else if ii = 30 then some (.reads false (.bool true)) else none) [1,2,3,7,8,9,14,15,116] [3,8,9,14] (e3 @hIi @hQl @qnn) ?_
        repeat with_reducible refine cj ?_ ?_
        all_goals try first | (first | exact hil | (intro hh; exact ⟨hh, hvq⟩)) | (intros; (repeat' apply And.intro) <;> first | assumption | (first | exact hil | (intro hh; exact ⟨hh, hvq⟩))) | omega | exact ent (by kernel_rfl) | (intro hgd; exact absurd hgd (by decide)) | rfl | (simp only [go_sem, reduceIte, reduceCtorEq, zA, zM, zE, zL, zD, zS, zP, zB, zI, zR, hIi, hQl, qnn]; done) | (intro _hgd; simp_all [go_sem]; done)
        refine AW.cn ?_ ?_
        · intro hb
          exfalso; first | omega | (simp at hb)
        · intro hb
          refine AW.skip ?_
          refine hK4 _ _ _ ?_; clear hK4
          refine AW.sd mixed 0 (fun _ => none) [3,7,8,9,14,15,17,18] [3,8,9,14] (e2 @hLl (e5 @hN @hwi @hwj @hti @htj)) ?_
          refine AW.so 0 (fun ii => if ii = 3 then some (.reads false (.tup [.int .i64 (up : Nat), .int .i64 0])) else none) [3,7,8,9,10,14,15,17,18,19] [3,8,9,14] trivial ?_
          repeat with_reducible refine cj ?_ ?_
          all_goals try first | (exact hjoin) | omega | exact ent (by kernel_rfl)
          refine AW.so 0 (fun ii => if ii = 3 then some (.reads false (.tup [.int .i64 (dn : Nat), .int .i64 0])) else none) [3,7,9,10,13,14,15,17,18,19,20] [3,9,14] trivial ?_
          repeat with_reducible refine cj ?_ ?_
          all_goals try first | (exact hmeet) | omega | exact ent (by kernel_rfl)
          refine AW.sd mixed 0 (fun ii => if ii = 8 then some (.reads false (.tup [.agg [.int .i64 n, .rsl 1 (words WU)], .int .i64 ((0 : Nat) : Int)])) else none) [3,7,9,10,13,14,15,16,17,18,19,20,21] [3,9,14,21] (e4 @hLl @hN @hga @hgb) ?_
          repeat with_reducible refine cj ?_ ?_
          all_goals try first | (exact hun) | omega | exact chk (by kernel_rfl) | exact ent (by kernel_rfl)
          refine AW.sd mixed 0 (fun ii => if ii = 8 then some (.reads false (.tup [.agg [.int .i64 n, .rsl 1 (words WD)], .int .i64 ((0 : Nat) : Int)])) else none) [3,7,9,10,13,14,15,16,19,20,21,22,23] [3,9,14,21,22] (e4 @hLl @hN @hga @hgb) ?_
          repeat with_reducible refine cj ?_ ?_
          all_goals try first | (exact hint) | omega | exact chk (by kernel_rfl) | exact ent (by kernel_rfl)
          refine AW.seq fun K5 hK5 => ?_
          refine AW.sg [3,7,9,14,15,19,20,21,22,198] [3,9,14,21,22] (e2 @hLl (e5 @hN @qu0 @qu1 @qd0 @qd1)) ?_
          repeat with_reducible refine cj ?_ ?_
          all_goals try first | omega | (intros; (repeat' apply And.intro) <;> first | assumption | omega | decide) | (intro hgd; exact absurd hgd (by decide)) | rfl | (simp only [go_sem, reduceIte, reduceCtorEq, zA, zM, zE, zL, zD, zS, zP, zB, zI, zR, hLl, hN, qu0, qu1, qd0, qd1]; done) | (intro _hgd; simp_all [go_sem]; done)
          refine AW.cn ?_ ?_
          · intro hb
            exfalso; first | omega | (simp at hb <;> omega)
          · intro hb
            refine AW.skip ?_
            refine hK5 _ _ _ ?_; clear hK5
            refine AW.seq fun K6 hK6 => ?_
            refine AW.sd mixed 0 (fun ii => if ii = 7 then some (.reads false (.bool true)) else if ii = 17 then some (.reads false (.bool true)) else none) [3,7,9,14,15,218] [3,9,14] (e4 @hLl @hN @hgu @hgd) ?_
            repeat with_reducible refine cj ?_ ?_
            all_goals try first | (first | exact heU | exact heD | (intro hh; exact ⟨hh, heU⟩) | (intro hh; exact ⟨hh, heD⟩)) | (intros; (repeat' apply And.intro) <;> first | assumption | (first | exact heU | exact heD | (intro hh; exact ⟨hh, heU⟩) | (intro hh; exact ⟨hh, heD⟩))) | omega | exact chk (by kernel_rfl) | exact ent (by kernel_rfl) | (intro hgd; exact absurd hgd (by decide)) | rfl | (simp only [go_sem, reduceIte, reduceCtorEq, zA, zM, zE, zL, zD, zS, zP, zB, zI, zR, hLl, hN, hgu, hgd]; done) | (intro _hgd; simp_all [go_sem]; done)
            refine AW.cn ?_ ?_
            · intro hb
              exfalso; simp at hb
            · intro hb
              refine AW.skip ?_
              refine hK6 _ _ _ ?_; clear hK6
              refine AW.so 0 (fun ii => if ii = 1 then some (.reads false (.rsl 1 R)) else none) [7,9,14,15,24] [9,14] trivial ?_
              repeat with_reducible refine cj ?_ ?_
              all_goals try first | (exact htab) | omega | exact ent (by kernel_rfl)
              refine AW.sg [7,9,14,15,24,25] [9,14,222] (@hplz) ?_
              refine AW.seq fun K7 hK7 => ?_
              refine AW.sg [7,9,14,15,24,25,223,224] [9,14,222] trivial ?_
              refine AW.block ?_
              clear hid hds hir hvq hil hjoin hmeet hun hint heU heD hga hgb hgu hgd hod hg ha htab hti htj hwi hwj hf hv hp hs hsQ hL hLn hlt hEl hQl hLl hi16 hj16 q7 qnn qNN qN0 qu0 qu1 qd0 qd1 hul hdl hai hbj hup hdn hIl hN0 hsl hsql hN hIi
              refine AW.loopE (fun mm ee ss kk => ∃ (x g9 v9 g14 v14 g v : Nat), n - x = mm ∧ ee = [(7, .int .i64 n), (9, .ptr ⟨9, g9, none⟩ 0 0), (14, .ptr ⟨14, g14, none⟩ 0 0), (15, .rsl 1 (ints (nats I))), (24, .rsl 1 R), (25, .sl ⟨222, g, none⟩ 0 n none), (223, .int .i64 n), (224, .int .i64 (x : Nat))] ∧ ss = [(9, some ⟨g9, v9, 1, [[.rsl 2 (tabR L)]]⟩), (14, some ⟨g14, v14, 1, [[.rsl 2 (tabR Q)]]⟩), (222, some ⟨g, v, 1, ints (nats (pl x))⟩)] ∧ (x ≤ n)) ?_ ?_
              · exact ⟨_, 0, _, _, _, _, _, _, rfl, eD, eD, eT⟩
              rintro mm ee ss kk ⟨x, g9, v9, g14, v14, g, v, rfl, rfl, rfl, hI⟩
              generalize hQl1 : thenQ _ _ = Ql1
              refine AW.sg [7,9,14,15,24,25,223,224,225] [9,14,222] trivial ?_
              refine AW.seq fun K8 hK8 => ?_
              refine AW.cn ?_ ?_
              · intro hb
                have hxn : x < n := by omega
                have hofx := hof x hxn
                have hixx := hix x hxn
                have hplx := hpls x hxn
                have hpllx := hpll x
                have hb0 : [[AV.int .i64 (x : Nat)]] = ints (nats (belL t x 0)) := rfl
                have hdlx := hdnl x
                rw [hdlx] at hofx hixx
                generalize setW (dB x) n = WX at *
                have hPx := hPl x hxn
                refine AW.skip ?_
                refine hK8 _ _ _ ?_; clear hK8
                refine AW.seq fun K9 hK9 => ?_
                refine AW.block ?_
                refine AW.sg [7,9,14,15,24,25,26,223,224] [9,14,222] trivial ?_
                refine AW.sg [7,9,14,15,24,25,26,27,223,224] [9,14,222,228] (@hb0) ?_
                refine AW.seq fun K10 hK10 => ?_
                refine AW.sg [7,9,14,15,24,25,26,27,223,224,229,230] [9,14,222,228] trivial ?_
                refine AW.block ?_
                refine AW.loopE (fun mm ee ss kk => ∃ (y g9 v9 g14 v14 g v h w : Nat), n - y = mm ∧ ee = [(7, .int .i64 n), (9, .ptr ⟨9, g9, none⟩ 0 0), (14, .ptr ⟨14, g14, none⟩ 0 0), (15, .rsl 1 (ints (nats I))), (24, .rsl 1 R), (25, .sl ⟨222, g, none⟩ 0 n none), (26, .int .i64 (x : Nat)), (27, .sl ⟨228, h, none⟩ 0 (belL t x y).length none), (223, .int .i64 n), (224, .int .i64 (x : Nat)), (229, .int .i64 n), (230, .int .i64 (y : Nat))] ∧ ss = [(9, some ⟨g9, v9, 1, [[.rsl 2 (tabR L)]]⟩), (14, some ⟨g14, v14, 1, [[.rsl 2 (tabR Q)]]⟩), (222, some ⟨g, v, 1, ints (nats (pl x))⟩), (228, some ⟨h, w, 1, ints (nats (belL t x y))⟩)] ∧ (y ≤ n)) ?_ ?_
                · exact ⟨_, 0, _, _, _, _, _, _, _, _, rfl, eD, eD, eT⟩
                rintro mm ee ss kk ⟨y, g9, v9, g14, v14, g, v, h, w, rfl, rfl, rfl, hI⟩
                generalize hQl2 : thenQ _ _ = Ql2
                refine AW.sg [7,9,14,15,24,25,26,27,223,224,229,230,231] [9,14,222,228] trivial ?_
                refine AW.seq fun K11 hK11 => ?_
                refine AW.cn ?_ ?_
                · intro hb
                  have hyn : y < n := by omega
                  have hgy := hgr y hyn
                  have hby := hbr y x hyn hxn
                  have hly := hblr y hyn
                  have hbsy := hbls x y
                  have hbey := hble x y
                  have htk : (ints (nats (belL t x y))).take (belL t x y).length = ints (nats (belL t x y)) := List.take_of_length_le (by rw [ints_len, nats_len]; exact Nat.le_refl _)
                  generalize belL t x y = bl at *
                  refine AW.skip ?_
                  refine hK11 _ _ _ ?_; clear hK11
                  refine AW.seq fun K12 hK12 => ?_
                  refine AW.block ?_
                  refine AW.sg [7,9,14,15,24,25,26,27,28,223,224,229,230] [9,14,222,228] trivial ?_
                  refine AW.sg [7,9,14,15,24,25,26,27,28,223,224,229,230,239] [9,14,222,228] (e4 @hrl @hgy @hly @hby) ?_
                  refine AW.cn ?_ ?_
                  · intro hb
                    rw [if_pos (by simpa using hb)] at hbsy
                    refine AW.regionK 0 (fun _ => none) [7, 9, 14, 15, 24, 25, 26, 27, 223, 224, 229, 230] [9, 14, 222, 228] ?_
                    simp only [go_sem, reduceIte, reduceCtorEq, zA, zM, zE, zL, zD, zS, zP, zB, zI, zR, htk, ints_app, nats_app, nats_len, ints_len]
                    repeat with_reducible refine cj ?_ ?_
                    all_goals try first | omega | (simp [scP, scalar]; done) | exact scP_words _ | exact scP_ints _ | exact scP_bools _
                    refine hK12 _ _ _ ?_; clear hK12
                    refine AW.rg [7,9,14,15,24,25,26,27,223,224,229,230] [9,14,222,228] trivial ?_
                    rw [← hQl2]; change Exists _
                    refine ⟨_, ?hm, y + 1, ?_, ?_, ?_, ?_, ?_, ?_, ?_, ?_, rfl, ?henv, ?hstore, ?hst⟩
                    case henv =>
                      repeat' (first | rfl | apply env_cons | apply st_cons | apply int_eq | apply bool_eq | apply rsl_eq | apply osl_eq | apply sl_eq | apply ptr_eq | apply agg_eq | apply es_cons | apply row_cons)
                      all_goals (first | (rw [hbsy]; done) | (rw [hbsy]; simp; done) | (simp; done) | omega)
                    case hstore =>
                      repeat' (first | rfl | apply env_cons | apply st_cons | apply int_eq | apply bool_eq | apply rsl_eq | apply osl_eq | apply sl_eq | apply ptr_eq | apply agg_eq | apply es_cons | apply row_cons)
                      all_goals (rw [hbsy])
                    case hst =>
                      first | trivial | omega | (simp; done) | (simp; omega)
                    case hm => omega
                  · intro hb
                    rw [if_neg (by simpa using hb)] at hbsy
                    refine AW.skip ?_
                    refine hK12 _ _ _ ?_; clear hK12
                    refine AW.rg [7,9,14,15,24,25,26,27,223,224,229,230] [9,14,222,228] trivial ?_
                    rw [← hQl2]; change Exists _
                    refine ⟨_, ?hm, y + 1, ?_, ?_, ?_, ?_, ?_, ?_, ?_, ?_, rfl, ?henv, ?hstore, ?hst⟩
                    case henv =>
                      repeat' (first | rfl | apply env_cons | apply st_cons | apply int_eq | apply bool_eq | apply rsl_eq | apply osl_eq | apply sl_eq | apply ptr_eq | apply agg_eq | apply es_cons | apply row_cons)
                      all_goals (first | (rw [hbsy]; done) | (rw [hbsy]; simp; done) | (simp; done) | omega)
                    case hstore =>
                      repeat' (first | rfl | apply env_cons | apply st_cons | apply int_eq | apply bool_eq | apply rsl_eq | apply osl_eq | apply sl_eq | apply ptr_eq | apply agg_eq | apply es_cons | apply row_cons)
                      all_goals (rw [hbsy])
                    case hst =>
                      first | trivial | omega | (simp; done) | (simp; omega)
                    case hm => omega
                · intro hb
                  have hyy : y = n := by omega
                  rw [hyy]
                  have htk : (ints (nats (belL t x n))).take (belL t x n).length = ints (nats (belL t x n)) := List.take_of_length_le (by rw [ints_len, nats_len]; exact Nat.le_refl _)
                  generalize belL t x n = bl at *
                  refine AW.kx [7,9,14,15,24,25,26,27,223,224] [9,14,222,228] ?_
                  rw [← hQl2]
                  refine hK10 _ _ _ ?_; clear hK10
                  refine AW.so 0 (fun ii => if ii = 2 then some (.reads true (.tup [.agg [.int .i64 n, .rsl 1 (words WX)], .int .i64 ((0 : Nat) : Int)])) else none) [7,9,14,15,24,25,26,29,30,223,224] [9,14,29,222] (@htk) ?_
                  repeat with_reducible refine cj ?_ ?_
                  all_goals try first | (exact hofx) | omega | exact ent (by kernel_rfl)
                  refine AW.so 0 (fun ii => if ii = 2 then some (.reads true (.int .i64 (P x : Nat))) else none) [7,9,14,15,24,25,26,30,31,223,224] [9,14,222] trivial ?_
                  repeat with_reducible refine cj ?_ ?_
                  all_goals try first | (exact hixx) | omega | exact ent (by kernel_rfl)
                  refine AW.seq fun K13 hK13 => ?_
                  refine AW.sg [7,9,14,15,24,25,26,31,223,224,259] [9,14,222] (@qP0) ?_
                  repeat with_reducible refine cj ?_ ?_
                  all_goals try first | omega | (intros; (repeat' apply And.intro) <;> first | assumption | omega | decide) | (intro hgd; exact absurd hgd (by decide)) | rfl | (simp only [go_sem, reduceIte, reduceCtorEq, zA, zM, zE, zL, zD, zS, zP, zB, zI, zR, qP0]; done) | (intro _hgd; simp_all [go_sem]; done)
                  refine AW.cn ?_ ?_
                  · intro hb
                    exfalso; first | omega | (simp at hb <;> omega)
                  · intro hb
                    refine AW.skip ?_
                    refine hK13 _ _ _ ?_; clear hK13
                    refine AW.rg [7,9,14,15,24,25,223,224] [9,14,222] (e5 @hpllx @nats_len @ints_len @nats_set @hplx) ?_
                    refine hK9 _ _ _ ?_; clear hK9
                    refine AW.rg [7,9,14,15,24,25,223,224] [9,14,222] trivial ?_
                    rw [← hQl1]; change Exists _
                    refine ⟨_, ?hm, x + 1, ?_, ?_, ?_, ?_, ?_, ?_, rfl, ?henv, ?hstore, ?hst⟩
                    case henv =>
                      repeat' (first | rfl | apply env_cons | apply st_cons | apply int_eq | apply bool_eq | apply rsl_eq | apply osl_eq | apply sl_eq | apply ptr_eq | apply agg_eq | apply es_cons | apply row_cons)
                      all_goals (first | (simp; done) | omega | (simp; omega))
                    case hstore =>
                      repeat' (first | rfl | apply env_cons | apply st_cons | apply int_eq | apply bool_eq | apply rsl_eq | apply osl_eq | apply sl_eq | apply ptr_eq | apply agg_eq | apply es_cons | apply row_cons)
                      all_goals (first | rfl | (rw [← hplx]; simp [nats, List.map_set]; done) | (simp; done))
                    case hst =>
                      first | trivial | omega | (simp; done) | (simp; omega)
                    case hm => omega
              · intro hb
                have hxx : x = n := by omega
                rw [hxx]
                refine AW.kx [7,14,24,25] [14,222] ?_
                rw [← hQl1]
                refine hK7 _ _ _ ?_; clear hK7
                refine AW.so 0 (fun ii => if ii = 1 then some (.reads false (.rsl 1 RQ)) else none) [7,24,25,32] [222] trivial ?_
                repeat with_reducible refine cj ?_ ?_
                all_goals try first | (exact htabQ) | omega | exact ent (by kernel_rfl)
                refine AW.seq fun K14 hK14 => ?_
                refine AW.sg [7,24,25,32,267,268] [222] trivial ?_
                refine AW.block ?_
                refine AW.loopE (fun mm ee ss kk => ∃ (x g v : Nat), n - x = mm ∧ ee = [(7, .int .i64 n), (24, .rsl 1 R), (25, .sl ⟨222, g, none⟩ 0 n none), (32, .rsl 1 RQ), (267, .int .i64 n), (268, .int .i64 (x : Nat))] ∧ ss = [(222, some ⟨g, v, 1, ints (nats (pl n))⟩)] ∧ (x ≤ n)) ?_ ?_
                · exact ⟨_, 0, _, _, rfl, eD, eD, eT⟩
                rintro mm ee ss kk ⟨x, g, v, rfl, rfl, rfl, hI⟩
                generalize hQl3 : thenQ _ _ = Ql3
                refine AW.sg [7,24,25,32,267,268,269] [222] trivial ?_
                refine AW.seq fun K15 hK15 => ?_
                refine AW.cn ?_ ?_
                · intro hb
                  have hxn : x < n := by omega
                  refine AW.skip ?_
                  refine hK15 _ _ _ ?_; clear hK15
                  refine AW.seq fun K16 hK16 => ?_
                  refine AW.block ?_
                  refine AW.sg [7,24,25,32,33,267,268] [222] trivial ?_
                  refine AW.sg [7,24,25,32,33,267,268,271,272] [222] trivial ?_
                  refine AW.block ?_
                  refine AW.loopE (fun mm ee ss kk => ∃ (y g v : Nat), n - y = mm ∧ ee = [(7, .int .i64 n), (24, .rsl 1 R), (25, .sl ⟨222, g, none⟩ 0 n none), (32, .rsl 1 RQ), (33, .int .i64 (x : Nat)), (267, .int .i64 n), (268, .int .i64 (x : Nat)), (271, .int .i64 n), (272, .int .i64 (y : Nat))] ∧ ss = [(222, some ⟨g, v, 1, ints (nats (pl n))⟩)] ∧ (y ≤ n)) ?_ ?_
                  · exact ⟨_, 0, _, _, rfl, eD, eD, eT⟩
                  rintro mm ee ss kk ⟨y, g, v, rfl, rfl, rfl, hI⟩
                  generalize hQl4 : thenQ _ _ = Ql4
                  refine AW.sg [7,24,25,32,33,267,268,271,272,273] [222] trivial ?_
                  refine AW.seq fun K17 hK17 => ?_
                  refine AW.cn ?_ ?_
                  · intro hb
                    have hyn : y < n := by omega
                    have hg1 := hgr x hxn
                    have hg2 := hgq (P x) (hPl x hxn)
                    have hg3 : (ints (nats (pl n))).getD x [] = [.int .i64 (P x : Nat)] := by rw [nats_getD (by rw [hpll]; exact hxn), hplg x hxn]
                    have hg4 : (ints (nats (pl n))).getD y [] = [.int .i64 (P y : Nat)] := by rw [nats_getD (by rw [hpll]; exact hyn), hplg y hyn]
                    have hg5 := hbr x y hxn hyn
                    have hg6 := hbq (P x) (P y) (hPl x hxn) (hPl y hyn)
                    rw [hPQ x y hxn hyn] at hg6
                    have hg7 := hblr x hxn
                    have hg8 := hblq (P x) (hPl x hxn)
                    have hg9 := hpll n
                    have hpx := hPl x hxn
                    have hpy := hPl y hyn
                    refine AW.skip ?_
                    refine hK17 _ _ _ ?_; clear hK17
                    refine AW.seq fun K18 hK18 => ?_
                    refine AW.block ?_
                    refine AW.sg [7,24,25,32,33,34,267,268,271,272] [222] trivial ?_
                    refine AW.sd mixed 0 (fun _ => none) [7,24,25,32,33,267,268,271,272,295] [222] (e5 @hrl @hrq @hg1 @hg2 (e5 @hg3 @hg4 @hg5 @hg6 (e5 @hg7 @hg8 @hg9 @nats_len @ints_len))) ?_
                    refine AW.cn ?_ ?_
                    · intro hb
                      exfalso; simp at hb
                    · intro hb
                      refine AW.skip ?_
                      refine hK18 _ _ _ ?_; clear hK18
                      refine AW.rg [7,24,25,32,33,267,268,271,272] [222] trivial ?_
                      rw [← hQl4]; change Exists _
                      exact ⟨_, eO, y + 1, _, _, rfl, eD, eD, eT⟩
                  · intro hb
                    refine AW.kx [7,24,25,32,267,268] [222] ?_
                    rw [← hQl4]
                    refine hK16 _ _ _ ?_; clear hK16
                    refine AW.rg [7,24,25,32,267,268] [222] trivial ?_
                    rw [← hQl3]; change Exists _
                    exact ⟨_, eO, x + 1, _, _, rfl, eD, eD, eT⟩
                · intro hb
                  refine AW.kx [] [] ?_
                  rw [← hQl3]
                  refine hK14 _ _ _ ?_; clear hK14
                  refine AW.sg [6] [] trivial ?_
                  rw [← hQr]
                  refine AW.rt trivial ?_
                  exact Wk.refl _
end Go.Proofs.B

/- The least isomorphism of two orders, plainly. -/
namespace Go.AM
end Go.AM

/- A reader's contract, for a root that is given away with the call. -/
namespace Go.AM
end Go.AM

namespace Go.Proofs.B
open Go.AM Go
set_option maxRecDepth 100000
set_option maxHeartbeats 4000000
end Go.Proofs.B

namespace Go.Proofs.B
open Go.AM Go
set_option maxRecDepth 100000
set_option maxHeartbeats 4000000
end Go.Proofs.B

namespace Go.Proofs.B
open Go.AM Go
set_option maxRecDepth 100000
set_option maxHeartbeats 4000000
end Go.Proofs.B

namespace Go.Proofs.B
open Go.AM Go
set_option maxRecDepth 100000
set_option maxHeartbeats 4000000
end Go.Proofs.B

namespace Go.Proofs.B
open Go.AM Go
set_option maxRecDepth 100000
set_option maxHeartbeats 4000000
theorem val_ex (rs : List USet) (hl : longR rs) (hok : ∀ x ∈ rs, okW x.W) : ∃ b, Reads Tryz.prog 58 false [relV rs] (.bool b) ∧ Reads Tryz.prog 11 false [relV rs] (.bool b) ∧
    (b = true → ∃ t, rs = t.map SB ∧ Sq rs.length t ∧ rs.length ≤ 512 ∧ poB rs.length t = true ∧ relV rs = relB t) := by
  rcases rel_cases rs hok with ⟨t, ht, hs, hn, hp⟩ | hb
  · have e : relV rs = relB t := by rw [relB_SB, ← ht]
    have h1 := pvalid_g _ t hs hn
    have h2 := rval_g _ t hs hn
    rw [hp, ← e] at h1 h2
    exact ⟨true, h1, order_r _ _ h2, fun _ => ⟨t, ht, hs, hn, hp, e⟩⟩
  · obtain ⟨h1, h2⟩ := rval_bad rs hl hb
    exact ⟨false, h1, order_r _ _ h2, fun h => by cases h⟩
end Go.Proofs.B

namespace Go.Proofs.B
open Go.AM Go
set_option maxRecDepth 100000
set_option maxHeartbeats 4000000
theorem law_orders (rs : List USet) (hl : longR rs) (hok : ∀ x ∈ rs, okW x.W) (i j : Int) (hi : 0 ≤ i ∧ i ≤ 65535) (hj : 0 ≤ j ∧ j ≤ 65535) : Reads Tryz.prog 3 false [relV rs, .int .u16 i, .int .u16 j] (.bool true) := by
  obtain ⟨b, _, ho, hb⟩ := val_ex rs hl hok
  by_cases h : 7 < rs.length ∨ greatB rs = true ∨ b = false
  · exact orders_0 rs hl b ho i j h
  · have h1 : rs.length ≤ 7 := Nat.le_of_not_lt fun e => h (.inl e)
    have h2 : greatB rs = false := by
      cases e : greatB rs
      · rfl
      · exact absurd (.inr (.inl e)) h
    have h3 : b = true := by
      cases b
      · exact absurd (.inr (.inr rfl)) h
      · rfl
    obtain ⟨t, ht, hs, hn, hp, e⟩ := hb h3
    rw [e]
    rw [ht] at h2
    have := orders_g _ t hs h1 hp h2 i.toNat j.toNat (by omega) (by omega)
    rw [Int.toNat_of_nonneg hi.1, Int.toNat_of_nonneg hj.1] at this
    exact this
end Go.Proofs.B

/- The shapes of arguments. -/
namespace Go.AM
theorem fit_int {P : Program} {t : TypeId} {k : IntKind} (hu : P.underlying t = some (.int k)) {f : Nat} {x : List AV} (h : Fit P f t x) : ∃ n, x = [.int k n] ∧ k.min ≤ n ∧ n ≤ k.max := by
  cases f with
  | zero => exact h.elim
  | succ f => unfold Fit at h; rw [hu] at h; exact h
theorem fit_slice {P : Program} {t e : TypeId} {m : Nat} (hu : P.underlying t = some (.slice e)) (hm : P.cellsOf e = m) (h0 : m ≠ 0) {f : Nat} {x : List AV} (h : Fit P f t x) : ∃ es f', x = [.rsl m es] ∧ es.length ≤ maxLen ∧ ∀ y ∈ es, Fit P f' e y := by
  cases f with
  | zero => exact h.elim
  | succ f =>
    unfold Fit at h; rw [hu] at h
    rcases h with h | ⟨es, h1, h2, h3⟩
    · exact absurd (hm ▸ h) h0
    · rw [hm] at h1; exact ⟨es, f, h1, h2, fun y hy => (h3 y hy).2⟩
theorem fit_struct {P : Program} {t : TypeId} {fs : Array Field} (hu : P.underlying t = some (.struct fs)) {f : Nat} {x : List AV} (h : Fit P f t x) : ∃ f' parts, x = List.flatten parts ∧ F2 (fun (fl : Field) p => Fit P f' fl.type p) fs.toList parts := by
  cases f with
  | zero => exact h.elim
  | succ f =>
    unfold Fit at h; rw [hu] at h
    obtain ⟨parts, h1, h2⟩ := h
    exact ⟨f, parts, h1, forall2_imp (fun _ _ h => h.2) h2⟩
theorem F2.two {α β : Type} {R : α → β → Prop} {a b : α} {l : List β} (h : F2 R [a, b] l) : ∃ x y, l = [x, y] ∧ R a x ∧ R b y := by
  cases h with | cons h1 t => cases t with | cons h2 t => cases t with | nil => exact ⟨_, _, rfl, h1, h2⟩
theorem F2.three {α β : Type} {R : α → β → Prop} {a b c : α} {l : List β} (h : F2 R [a, b, c] l) : ∃ x y z, l = [x, y, z] ∧ R a x ∧ R b y ∧ R c z := by
  cases h with | cons h1 t => cases t with | cons h2 t => cases t with | cons h3 t => cases t with | nil => exact ⟨_, _, _, rfl, h1, h2, h3⟩
theorem exists_mapP {α β : Type} {f : α → β} {p : α → Prop} : ∀ {l : List β}, (∀ x ∈ l, ∃ a, x = f a ∧ p a) → ∃ m : List α, l = m.map f ∧ ∀ a ∈ m, p a
  | [], _ => ⟨[], rfl, fun _ h => by cases h⟩
  | x :: l, h => by
    obtain ⟨a, rfl, ha⟩ := h x (List.mem_cons_self ..)
    obtain ⟨m, rfl, hm⟩ := exists_mapP fun y hy => h y (List.mem_cons_of_mem _ hy)
    exact ⟨a :: m, rfl, fun b hb => by rcases List.mem_cons.1 hb with rfl | hb; exact ha; exact hm b hb⟩
theorem okW_of {W : List Int} (h : ∀ w ∈ W, 0 ≤ w ∧ w ≤ 18446744073709551615) : okW W := fun i => by
  by_cases hi : i < W.length
  · have := h _ (mem_getD hi 0); omega
  · rw [List.getD_eq_getElem?_getD, List.getElem?_eq_none (by omega)]; simp
end Go.AM

/- A laid table, as the machine's package variable. -/
namespace Go.AM
theorem rptr_of_laid {P : Program} {n : String} {g : Nat} {t e : TypeId} {k : IntKind} {L : List Int} {W : World} (hg : P.globalNamed n = some g) (ht : (P.globals[g]?).map (·.type) = some t) (hu : P.underlying t = some (.array L.length e))
    (hc : P.cellsOf e = 1) (hc2 : P.cellsOf t = L.length) (hu2 : P.underlying e = some (.int k)) (hL : L ≠ []) (h : laidMet P [(n, .agg (L.map fun i => .lit (.int k i)))] W) : RelP (immF W fun _ => False) W (.rptr (L.map (AV.int k))) (.pointer (some ⟨g, 0, none⟩)) := by
  obtain ⟨ps, ⟨g0, t0, cs0, f0, p0, q0, hg0, ht0, hv0, hd0, _, _⟩, _, _⟩ := h
  obtain rfl := Option.some.inj (hg.symm.trans hg0)
  obtain rfl := Option.some.inj (ht.symm.trans ht0)
  obtain ⟨xs, m, rfl, hx, hlen, hn, hel⟩ := DataW.trod_array hu hd0
  have hcell : ∀ j, j < L.length → W.cell? ⟨g, j, none⟩ = some (.int k (L.getD j 0)) := fun j hj => by
    have h0 := hel j hj
    rw [hc, Nat.mul_one] at h0
    have hjx : j < xs.length := by omega
    rw [List.getElem?_eq_getElem hjx] at h0
    obtain ⟨z, e1, e2, _⟩ := DataW.trod_int hu2 h0
    have hxs : xs.map (·.1) = L.map fun i => .lit (.int k i) := by
      simp only [Prod.mk.injEq, DataW.agg.injEq] at hx
      exact hx.1.symm
    have hzj : (xs.map (·.1))[j]? = (L.map fun i => (.lit (.int k i) : DataW Unit))[j]? := by rw [hxs]
    rw [List.getElem?_map, List.getElem?_map, List.getElem?_eq_getElem hjx, List.getElem?_eq_getElem hj, e2] at hzj
    simp only [Option.map_some, Option.some.injEq, DataW.lit.injEq, Lit.int.injEq] at hzj
    have hz : z = L.getD j 0 := by rw [hzj.2]; simp [List.getD_eq_getElem?_getD, hj]
    have hcs : cs0[j]? = some (.int k z) := by
      have hl : cs0.toList.length = L.length := by rw [hlen, hc2]
      have hd : cs0.toList.drop j = cs0.toList[j]'(by omega) :: cs0.toList.drop (j + 1) := List.drop_eq_getElem_cons (by omega)
      rw [hd] at e1
      simp only [List.take_succ_cons, List.take_zero, List.cons.injEq, and_true] at e1
      rw [← Array.getElem?_toList, List.getElem?_eq_getElem (by omega), e1]
    rw [World.var?_cell hg hv0 j, hcs, hz]
  have hlt : g < W.heap.size := by
    cases L with
    | nil => exact absurd rfl hL
    | cons a l =>
      have := hcell 0 (by simp)
      unfold World.cell? at this
      cases hh : W.heap[g]? with
      | none => simp [hh] at this
      | some o => exact heap_lt hh
  refine .rptr _ g 0 (fun j => .int k (L.getD j 0)) ⟨hlt, fun h => h⟩ (fun j hj => ?_) (fun j hj => ?_)
  · rw [List.length_map] at hj
    rw [Nat.zero_add]
    exact hcell j hj
  · rw [List.length_map] at hj
    have e : (L.map (AV.int k)).getD j .any = .int k (L.getD j 0) := by simp [List.getD_eq_getElem?_getD, hj]
    rw [e]
    exact .int _ _
end Go.AM

/- The shapes of the birkhoff laws' arguments. -/
namespace Go.AM
open Go.Proofs
theorem fit_words {f : Nat} {x : List AV} (h : Fit Tryz.prog f 39 x) : ∃ W : List Int, x = [.rsl 1 (words W)] ∧ W.length ≤ 9223372036854775807 ∧ okW W := by
  obtain ⟨es, f2, rfl, h5, h6⟩ := fit_slice (m := 1) Tryz.underlying39 (by kernel_rfl) (by decide) h
  obtain ⟨ws, rfl, hw⟩ := exists_mapP (f := fun x : Int => [AV.int .u64 x]) (p := fun w => 0 ≤ w ∧ w ≤ 18446744073709551615) fun y hy => by
    obtain ⟨n, e, h1, h2⟩ := fit_int Tryz.underlying45 (h6 y hy)
    exact ⟨n, e, by simpa [IntKind.min, IntKind.signed] using h1, by simpa [IntKind.max, IntKind.signed, IntKind.bits] using h2⟩
  exact ⟨ws, rfl, by simpa [maxLen] using h5, okW_of hw⟩
theorem fit_set {f : Nat} {x : List AV} (h : Fit Tryz.prog f 41 x) : ∃ y : USet, x = rowV y ∧ y.W.length ≤ 9223372036854775807 ∧ okW y.W := by
  obtain ⟨f', parts, rfl, h2⟩ := fit_struct Tryz.underlying41 h
  obtain ⟨a, b, rfl, h3, h4⟩ := F2.two h2
  obtain ⟨i, rfl, _⟩ := fit_int Tryz.underlying3 h3
  obtain ⟨W, rfl, h5, h6⟩ := fit_words h4
  exact ⟨⟨i, W⟩, rfl, h5, h6⟩
theorem F2.one {α β : Type} {R : α → β → Prop} {a : α} {l : List β} (h : F2 R [a] l) : ∃ x, l = [x] ∧ R a x := by
  cases h with | cons h1 t => cases t with | nil => exact ⟨_, rfl, h1⟩
theorem fit_rel {f : Nat} {x : List AV} (h : Fit Tryz.prog f 24 x) : ∃ rs : List USet, x = [.rsl 2 (rs.map rowV)] ∧ (rs.length ≤ 9223372036854775807 ∧ ∀ y ∈ rs, y.W.length ≤ 9223372036854775807) ∧ ∀ y ∈ rs, okW y.W := by
  obtain ⟨f', parts, rfl, h2⟩ := fit_struct Tryz.underlying24 h
  obtain ⟨a, rfl, h3⟩ := F2.one h2
  obtain ⟨es, f2, rfl, h5, h6⟩ := fit_slice (m := 2) Tryz.underlying22 (by kernel_rfl) (by decide) h3
  obtain ⟨rs, rfl, hr⟩ := exists_mapP (f := rowV) (p := fun y => y.W.length ≤ 9223372036854775807 ∧ okW y.W) fun y hy => fit_set (h6 y hy)
  exact ⟨rs, rfl, ⟨by simpa [maxLen] using h5, fun y hy => (hr y hy).1⟩, fun y hy => (hr y hy).2⟩
theorem laidMet_tail {P : Program} {W : World} {x : String × DataW Unit} {l : List (String × DataW Unit)} (h : laidMet P (x :: l) W) : laidMet P l W := by
  obtain ⟨ps, ⟨g, t, cs, f, p, q, hg, ht, hv, hd, hr, rfl⟩, hn, hc⟩ := h
  exact ⟨q, hr, (List.nodup_append.1 hn).2.1, fun b off hm => hc b off (List.mem_append.2 (.inr hm))⟩
theorem laidMet_head {P : Program} {W : World} {x : String × DataW Unit} {l : List (String × DataW Unit)} (h : laidMet P (x :: l) W) : laidMet P [x] W := by
  obtain ⟨ps, ⟨g, t, cs, f, p, q, hg, ht, hv, hd, hr, rfl⟩, hn, hc⟩ := h
  refine ⟨MemPlace.row ⟨g, 0, none⟩ cs.size ++ p ++ [], ⟨g, t, cs, f, p, [], hg, ht, hv, hd, rfl, rfl⟩, ?_, fun b off hm => ?_⟩
  · rw [List.append_nil]; exact (List.nodup_append.1 hn).1
  · rw [List.append_nil] at hm; exact hc b off (List.mem_append.2 (.inl hm))
theorem pgl {W : World} (h : laidMetH Tryz.prog [("math/bits.deBruijn32tab", YtppocnbagombeaaGreatDoor.Rows.laid_math_bits_deBruijn32tab), ("math/bits.deBruijn64tab", YtppocnbagombeaaGreatDoor.Rows.laid_math_bits_deBruijn64tab), ("internal/strconv.uint64pow10", YtppocnbagombeaaGreatDoor.Rows.laid_internal_strconv_uint64pow10)] W) : GL (immF W fun _ => False) W := fun g cs e => by
  rw [MakeChecks.laidMetH_plain _ _ _ (by rfl)] at h
  have h2 := laidMet_head (laidMet_tail h)
  cases g with
  | zero =>
    rw [globA_aux] at e
    obtain rfl := Option.some.inj e
    exact rptr_of_laid (L := tzTab) (by kernel_rfl : Tryz.prog.globalNamed "math/bits.deBruijn64tab" = some 0) (by kernel_rfl : (Tryz.prog.globals[0]?).map (·.type) = some 136) (e := 5) Tryz.underlying136 (by kernel_rfl) (by kernel_rfl) Tryz.underlying5 (by decide) h2
  | succ g => cases e
theorem pmet (os : Os) (args : Array Value) : laidMetH Tryz.prog [("math/bits.deBruijn32tab", YtppocnbagombeaaGreatDoor.Rows.laid_math_bits_deBruijn32tab), ("math/bits.deBruijn64tab", YtppocnbagombeaaGreatDoor.Rows.laid_math_bits_deBruijn64tab), ("internal/strconv.uint64pow10", YtppocnbagombeaaGreatDoor.Rows.laid_internal_strconv_uint64pow10)] ((World.doorLaid Tryz.prog 400 os).forCall (fun _ _ => 0) ⟨#[], args, []⟩).memory :=
  laidMetH_of_parts3 (fuel := 8) (laidMet_of_run' 8 (by kernel_rfl) (by kernel_rfl)) (by kernel_rfl) (by kernel_rfl)
end Go.AM

