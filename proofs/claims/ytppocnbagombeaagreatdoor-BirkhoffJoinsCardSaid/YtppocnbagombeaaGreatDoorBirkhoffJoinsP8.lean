/- Lemmas and contracts, part 8: an abstract machine over the model, and the functions that the statement reaches. -/
import Derived.Test.YtppocnbagombeaaGreatDoorBirkhoffJoinsP7
import Derived.MakeChecks
import Derived.LaidMore
import Derived.Test.YtppocnbagombeaaGreatDoorRows
set_option linter.unusedVariables false
set_option linter.unusedSimpArgs false
open Nat renaming reduceAdd → zA, reduceMul → zM, reduceEqDiff → zE, reduceLT → zL, reduceLeDiff → zD, reduceSub → zS, reducePow → zP, reduceBEq → zB
open Int renaming reduceToNat → zI
open List renaming reduceReplicate → zR
namespace Go.Proofs.B
open Go.AM Go
set_option maxRecDepth 100000
set_option maxHeartbeats 4000000
theorem formed_a (N n : Int) (W : List Int) (hl : W.length ≤ 9223372036854775807) (hn0 : 0 ≤ n) (hn1 : n ≤ 512) (hm : n.tmod 64 = 0) : Reads Tryz.prog 57 false [.agg [.int .i64 N, .rsl 1 (words W)], .int .i64 n] (.bool (decide (N = n) && validS n W)) := by
  have hwe := wordsN_ref n
  have hwn := wordsN_rng (n := n) hn0
  have hdiv : 0 ≤ n.tdiv 64 ∧ n.tdiv 64 ≤ 512 ∧ n.tdiv 64 = wordsN n := by rw [← hwe]; rw [Int.tmod_eq_emod_of_nonneg hn0] at hm; rw [Int.tdiv_eq_ediv_of_nonneg (by omega), Int.tdiv_eq_ediv_of_nonneg (by omega)]; omega
  refine Reads.body (rs := [.tmp 4]) Tryz.func57 rfl Tryz.ntmps57 rfl (by simp) ?_
  generalize hQr : retQ _ _ _ = Qr
  -- block 1
  refine AW.sg [1,2] [2] trivial ?_
  refine AW.seq fun K1 hK1 => ?_
  refine AW.sg [1,2,17] [2] (@hwe) ?_
  repeat with_reducible refine cj ?_ ?_
  all_goals try first | omega | (intros; (repeat' apply And.intro) <;> first | assumption | omega | decide) | (intro hgd; exact absurd hgd (by decide)) | rfl | (simp only [go_sem, reduceIte, reduceCtorEq, zA, zM, zE, zL, zD, zS, zP, zB, zI, zR, hwe]; done) | (intro _hgd; simp_all [go_sem]; done)
  refine AW.cn ?_ ?_
  · intro hb
    refine AW.sg [4] [] trivial ?_
    -- ret 1
    rw [← hQr]
    refine AW.rt trivial ?_
    exact Wk.of_eq (by congr 1; symm; simp [validS]; intros; omega)
  · intro hb
    have hlen : (W.length : Int) = wordsN n := by omega
    have hNn : N = n := by omega
    have hgw : (words W).getD (n.tdiv 64).toNat [] = [] := by rw [List.getD_eq_getElem?_getD, List.getElem?_eq_none (by rw [words_len]; omega)]; rfl
    refine AW.skip ?_
    refine hK1 _ _ _ ?_; clear hK1
    refine AW.sg [4] [] (e2 @hgw @hm) ?_
    repeat with_reducible refine cj ?_ ?_
    all_goals try first | ((intro hh; (repeat' apply And.intro) <;> first | exact hh | omega | (exfalso; simp at hh; done))) | (intros; (repeat' apply And.intro) <;> first | assumption | ((intro hh; (repeat' apply And.intro) <;> first | exact hh | omega | (exfalso; simp at hh; done)))) | omega | (intro hgd; exact absurd hgd (by decide)) | rfl | (simp only [go_sem, reduceIte, reduceCtorEq, zA, zM, zE, zL, zD, zS, zP, zB, zI, zR, hgw, hm]; done) | (intro _hgd; simp_all [go_sem]; done)
    -- ret 2
    rw [← hQr]
    refine AW.rt trivial ?_
    exact Wk.of_eq (by simp [validS, topB, hm, hNn, hlen, hn0, hn1])
theorem formed_b (N n : Int) (W : List Int) (hl : W.length ≤ 9223372036854775807) (hn0 : 0 ≤ n) (hn1 : n ≤ 512) (hm : n.tmod 64 ≠ 0) : Reads Tryz.prog 57 false [.agg [.int .i64 N, .rsl 1 (words W)], .int .i64 n] (.bool (decide (N = n) && validS n W)) := by
  have hwe := wordsN_ref n
  have hwn := wordsN_rng (n := n) hn0
  have hmod : 0 ≤ n.tmod 64 ∧ n.tmod 64 < 64 := by rw [Int.tmod_eq_emod_of_nonneg (by omega)]; omega
  have hnz : n ≠ 0 := by rintro rfl; exact hm rfl
  have hwr : IntKind.u64.wrap (n.tmod 64) = n.tmod 64 := by simp [IntKind.wrap, IntKind.signed, IntKind.bits]; omega
  refine Reads.body (rs := [.tmp 4]) Tryz.func57 rfl Tryz.ntmps57 rfl (by simp) ?_
  generalize hQr : retQ _ _ _ = Qr
  -- block 2
  refine AW.sg [1,2] [2] trivial ?_
  refine AW.seq fun K1 hK1 => ?_
  refine AW.sg [1,2,17] [2] (@hwe) ?_
  repeat with_reducible refine cj ?_ ?_
  all_goals try first | omega | (intros; (repeat' apply And.intro) <;> first | assumption | omega | decide) | (intro hgd; exact absurd hgd (by decide)) | rfl | (simp only [go_sem, reduceIte, reduceCtorEq, zA, zM, zE, zL, zD, zS, zP, zB, zI, zR, hwe]; done) | (intro _hgd; simp_all [go_sem]; done)
  refine AW.cn ?_ ?_
  · intro hb
    refine AW.sg [4] [] trivial ?_
    -- ret 1
    rw [← hQr]
    refine AW.rt trivial ?_
    exact Wk.of_eq (by congr 1; symm; simp [validS]; intros; omega)
  · intro hb
    have hlen : (W.length : Int) = wordsN n := by omega
    have hNn : N = n := by omega
    obtain ⟨hti, htl⟩ := top_ix hn0 hlen hm
    have hdiv : 0 ≤ n.tdiv 64 ∧ n.tdiv 64 ≤ 512 := by rw [Int.tdiv_eq_ediv_of_nonneg (by omega)]; omega
    have hgw : (words W).getD (n.tdiv 64).toNat [] = [.int .u64 (W.getD (W.length - 1) 0)] := by rw [← hti]; exact words_getD (by omega)
    refine AW.skip ?_
    refine hK1 _ _ _ ?_; clear hK1
    refine AW.sg [4] [] (e2 @hgw @hwr) ?_
    repeat with_reducible refine cj ?_ ?_
    all_goals try first | ((intro hh; (repeat' apply And.intro) <;> first | exact hh | omega)) | (intros; (repeat' apply And.intro) <;> first | assumption | ((intro hh; (repeat' apply And.intro) <;> first | exact hh | omega))) | omega | (intro hgd; exact absurd hgd (by decide)) | rfl | (simp only [go_sem, reduceIte, reduceCtorEq, zA, zM, zE, zL, zD, zS, zP, zB, zI, zR, hgw, hwr]; done) | (intro _hgd; simp_all [go_sem]; done)
    -- ret 2
    rw [← hQr]
    refine AW.rt trivial ?_
    exact Wk.of_eq (by simp [validS, topB, hm, hNn, hlen, hn0, hn1])
theorem formed_r (N n : Int) (W : List Int) (hl : W.length ≤ 9223372036854775807) (hn0 : 0 ≤ n) (hn1 : n ≤ 512) : Reads Tryz.prog 57 false [.agg [.int .i64 N, .rsl 1 (words W)], .int .i64 n] (.bool (decide (N = n) && validS n W)) := by
  by_cases hm : n.tmod 64 = 0
  · exact formed_a N n W hl hn0 hn1 hm
  · exact formed_b N n W hl hn0 hn1 hm
theorem rrvalid_r (rs : List USet) (hl : rs.length ≤ 9223372036854775807) (hx : ∀ x ∈ rs, x.W.length ≤ 9223372036854775807) : Reads Tryz.prog 16 false [relV rs] (.bool (validR rs)) := by
  have hf := fun x hxm h => formed_r x.N (rs.length : Nat) x.W (hx x hxm) (by omega) h
  have hvg := validR_good rs
  unfold relV
  refine Reads.body (rs := [.tmp 2]) Tryz.func16 rfl Tryz.ntmps16 rfl (by simp) ?_
  generalize hQr : retQ _ _ _ = Qr
  -- block 3
  refine AW.sg [1] [1] trivial ?_
  refine AW.sg [1,3] [1] trivial ?_
  refine AW.seq fun K1 hK1 => ?_
  refine AW.sg [1,3,9] [1] trivial ?_
  refine AW.cn ?_ ?_
  · intro hb
    refine AW.sg [2] [] trivial ?_
    -- ret 1
    rw [← hQr]
    refine AW.rt trivial ?_
    have hn : ¬ rs.length ≤ 512 := by omega
    exact Wk.of_eq (by rw [hvg]; simp [hn])
  · intro hb
    have h512 : rs.length ≤ 512 := by omega
    refine AW.skip ?_
    refine hK1 _ _ _ ?_; clear hK1
    refine AW.seq fun K2 hK2 => ?_
    refine AW.sg [1,3,4] [1] trivial ?_
    refine AW.block ?_
    refine AW.loopE (fun mm ee ss kk => ∃ (j g v : Nat), rs.length - j = mm ∧ ee = [(1, .ptr ⟨1, g, none⟩ 0 0), (3, .int .i64 rs.length), (4, .int .i64 (j : Nat))] ∧ ss = [(1, some ⟨g, v, 1, [[.rsl 2 (rs.map rowV)]]⟩)] ∧ (j ≤ rs.length ∧ (rs.take j).all (goodRow rs.length) = true)) ?_ ?_
    -- init 1
    · exact ⟨_, 0, _, _, rfl, eD, eD, (⟨Nat.zero_le _, rfl⟩)⟩
    rintro mm ee ss kk ⟨j, g, v, rfl, rfl, rfl, hI⟩
    generalize hQl1 : thenQ _ _ = Ql1
    obtain ⟨hj, hall⟩ := hI
    refine AW.seq fun K3 hK3 => ?_
    refine AW.sg [1,3,4,12] [1] trivial ?_
    refine AW.cn ?_ ?_
    · intro hb
      obtain ⟨x, hx2⟩ := getI (l := rs) (j := j) (by omega)
      have hgx := getV (f := rowV) hx2
      have hats := all_take_succ (p := goodRow rs.length) hx2
      have hfx := hf x (List.mem_of_getElem? hx2) (by omega)
      refine AW.skip ?_
      refine hK3 _ _ _ ?_; clear hK3
      refine AW.seq fun K4 hK4 => ?_
      refine AW.block ?_
      refine AW.so 0 (fun ii => if ii = 6 then some (.reads false (.bool (goodRow rs.length x))) else none) [1,3,4,22] [1] (e2 @hgx @rowV.eq_1) ?_
      repeat with_reducible refine cj ?_ ?_
      all_goals try first | (exact hfx) | omega | exact ent (by kernel_rfl)
      refine AW.cn ?_ ?_
      · intro hb
        refine AW.sg [2] [] trivial ?_
        -- ret 2
        rw [← hQl1, ← hQr]
        refine AW.rt trivial ?_
        exact Wk.of_eq (by rw [hvg, all_false_of hx2 hb]; simp)
      · intro hb
        refine AW.skip ?_
        refine hK4 _ _ _ ?_; clear hK4
        refine AW.rg [1,3,4] [1] trivial ?_
        -- again 1
        rw [← hQl1]; change Exists _
        exact ⟨_, eO, j + 1, _, _, rfl, eD, eD, (⟨by omega, by rw [hats, hall, hb]; rfl⟩)⟩
    · intro hb
      -- exit 0
      refine AW.kx [] [] ?_
      rw [← hQl1]
      refine hK2 _ _ _ ?_; clear hK2
      refine AW.sg [2] [] trivial ?_
      -- ret 3
      rw [← hQr]
      refine AW.rt trivial ?_
      exact Wk.of_eq (by rw [List.take_of_length_le (by omega)] at hall; rw [hvg, hall]; simp [h512])
theorem table_r (n : Nat) (t : List (List Bool)) (hs : Sq n t) (hn : n ≤ 512) : Reads Tryz.prog 22 true [relB t] (.rsl 1 (rowsR t)) := by
  have hlen := hs.len
  have hrl := tabR_len t
  have hwn := wordsN_rng (n := (n : Int)) (by omega)
  unfold relB
  refine Reads.bodyF (rs := [.tmp 2]) Tryz.func22 rfl Tryz.ntmps22 rfl (by simp) ?_
  generalize hQr : retQ _ _ _ = Qr
  -- block 4
  refine AW.sg [1] [1] (e2 @hrl @hlen) ?_
  refine AW.sg [1,3] [1] (e2 @hrl @hlen) ?_
  refine AW.sg [1,3,4] [1] (e2 @hrl @hlen) ?_
  refine AW.seq fun K1 hK1 => ?_
  refine AW.sg [1,3,4,5] [1] (e2 @hrl @hlen) ?_
  refine AW.block ?_
  refine AW.nilOwn 4 200 1 (by simp only [go_sem, reduceIte, zE]) ?_
  refine AW.keep [1, 3, 4, 5] [1, 200] ?_
  simp only [go_sem, reduceIte, zE]
  refine AW.loopE (fun mm ee ss kk => ∃ (i g1 v1 g v : Nat), n - i = mm ∧ ee = [(1, .ptr ⟨1, g1, none⟩ 0 0), (3, .int .i64 n), (4, .sl ⟨200, g, none⟩ 0 i none), (5, .int .i64 (i : Nat))] ∧ ss = [(1, some ⟨g1, v1, 1, [[.rsl 2 (tabR t)]]⟩), (200, some ⟨g, v, 1, rowsO (t.take i)⟩)] ∧ (i ≤ n)) ?_ ?_
  -- init 1
  · exact ⟨_, 0, _, _, _, _, rfl, eD, eD, eT⟩
  rintro mm ee ss kk ⟨i, g1, v1, g, v, rfl, rfl, rfl, hI⟩
  generalize hQl1 : thenQ _ _ = Ql1
  refine AW.seq fun K2 hK2 => ?_
  refine AW.sg [1,3,4,5,13] [1,200] (e2 @hrl @hlen) ?_
  refine AW.cn ?_ ?_
  · intro hb
    have hgr := tabR_get (t := t) (i := i) (by omega)
    have hrw := hs.rowLen (i := i) (by omega)
    have hti := take_succT (t := t) (i := i) (by omega)
    have htl : (rowsO (t.take i)).length = i := by rw [rowsO_len]; simp; omega
    have htk : (rowsO (t.take i)).take i = rowsO (t.take i) := List.take_of_length_le (by omega)
    generalize hb' : rowT t i = b at *
    have hap := rowsO_app (t.take i) b
    have hgl := fun x => app_get (rowsO (t.take i)) x htl
    have hsl := fun x y => app_set (rowsO (t.take i)) x y htl
    have hll := fun x => app_len (rowsO (t.take i)) x htl
    have hwl := setW_len' b
    rw [hrw] at hwl
    refine AW.skip ?_
    refine hK2 _ _ _ ?_; clear hK2
    refine AW.seq fun K3 hK3 => ?_
    refine AW.block ?_
    refine AW.sg [1,3,4,5,6] [1,17,200] (e2 @hrl @hlen) ?_
    refine AW.seq fun K4 hK4 => ?_
    refine AW.sg [1,3,4,5,6,7] [1,17,200] (e2 @hrl @hlen) ?_
    refine AW.block ?_
    refine AW.loopE (fun mm ee ss kk => ∃ (j g1 v1 g17 v17 g v : Nat), n - j = mm ∧ ee = [(1, .ptr ⟨1, g1, none⟩ 0 0), (3, .int .i64 n), (4, .sl ⟨200, g, none⟩ 0 i none), (5, .int .i64 (i : Nat)), (6, .sl ⟨17, g17, none⟩ 0 n none), (7, .int .i64 (j : Nat))] ∧ ss = [(1, some ⟨g1, v1, 1, [[.rsl 2 (tabR t)]]⟩), (17, some ⟨g17, v17, 1, bools (fillB b n j)⟩), (200, some ⟨g, v, 1, rowsO (t.take i)⟩)] ∧ (j ≤ n)) ?_ ?_
    -- init 2
    · refine ⟨_, 0, ?_, ?_, ?_, ?_, ?_, ?_, rfl, ?henv, ?hstore, ?hst⟩
      case henv =>
        repeat' (first | rfl | refine env_cons ?_ ?_ | refine st_cons ?_ ?_ ?_ ?_ | refine int_eq ?_ | refine bool_eq ?_ | refine rsl_eq ?_ | refine osl_eq ?_ | refine sl_eq ?_ ?_ ?_ | refine ptr_eq ?_ ?_ ?_ | refine agg_eq ?_ | refine es_cons ?_ ?_ | refine row_cons ?_ ?_)
        all_goals (first | (simp; done) | omega | (simp; omega))
      case hstore =>
        repeat' (first | rfl | refine env_cons ?_ ?_ | refine st_cons ?_ ?_ ?_ ?_ | refine int_eq ?_ | refine bool_eq ?_ | refine rsl_eq ?_ | refine osl_eq ?_ | refine sl_eq ?_ ?_ ?_ | refine ptr_eq ?_ ?_ ?_ | refine agg_eq ?_ | refine es_cons ?_ ?_ | refine row_cons ?_ ?_)
        all_goals (rw [fillB_zero]; simp [bools])
      case hst =>
        first | trivial | omega | (simp; done) | (simp; omega)
    rintro mm ee ss kk ⟨j, g1, v1, g17, v17, g, v, rfl, rfl, rfl, hI⟩
    generalize hQl2 : thenQ _ _ = Ql2
    refine AW.seq fun K5 hK5 => ?_
    refine AW.sg [1,3,4,5,6,7,20] [1,17,200] (e2 @hrl @hlen) ?_
    refine AW.cn ?_ ?_
    · intro hb
      have hd := div64_rng (i := (j : Int)) (n := n) (by omega) (by omega)
      have hgw := words_getD (l := setW b n) (i := ((j : Int).tdiv 64).toNat) (by omega)
      have hwr : IntKind.u64.wrap ((j : Int).tmod 64) = (j : Int).tmod 64 := by simp [IntKind.wrap, IntKind.signed, IntKind.bits]; omega
      have hhw := hasW_row (b := b) (j := j) (by omega)
      unfold hasW at hhw
      rw [hrw] at hhw
      have hfs := fillB_succ hrw (i := j) (by omega)
      have hfl := fillB_len hrw (i := j) (by omega)
      refine AW.skip ?_
      refine hK5 _ _ _ ?_; clear hK5
      refine AW.seq fun K6 hK6 => ?_
      refine AW.block ?_
      refine AW.rg [1,3,4,5,6,7] [1,17,200] (e5 @hrl @hlen @hgr @rowB.eq_1 (e5 @hrw @hgw @hwr @hhw @hfl)) ?_
      refine hK6 _ _ _ ?_; clear hK6
      refine AW.rg [1,3,4,5,6,7] [1,17,200] (e2 @hrl @hlen) ?_
      -- again 2
      rw [← hQl2]; change Exists _
      refine ⟨_, ?hm, j + 1, ?_, ?_, ?_, ?_, ?_, ?_, rfl, ?henv, ?hstore, ?hst⟩
      case henv =>
        repeat' (first | rfl | refine env_cons ?_ ?_ | refine st_cons ?_ ?_ ?_ ?_ | refine int_eq ?_ | refine bool_eq ?_ | refine rsl_eq ?_ | refine osl_eq ?_ | refine sl_eq ?_ ?_ ?_ | refine ptr_eq ?_ ?_ ?_ | refine agg_eq ?_ | refine es_cons ?_ ?_ | refine row_cons ?_ ?_)
        all_goals (first | (simp; done) | omega | (simp; omega))
      case hstore =>
        repeat' (first | rfl | refine env_cons ?_ ?_ | refine st_cons ?_ ?_ ?_ ?_ | refine int_eq ?_ | refine bool_eq ?_ | refine rsl_eq ?_ | refine osl_eq ?_ | refine sl_eq ?_ ?_ ?_ | refine ptr_eq ?_ ?_ ?_ | refine agg_eq ?_ | refine es_cons ?_ ?_ | refine row_cons ?_ ?_)
        all_goals (rw [← hfs])
      case hst =>
        first | trivial | omega | (simp; done) | (simp; omega)
      case hm => omega
    · intro hb
      have hj : j = n := by omega
      subst hj
      rw [fillB_all hrw]
      -- exit 2
      refine AW.exit ?_
      rw [← hQl2]
      refine hK4 _ _ _ ?_; clear hK4
      refine AW.regionK 0 (fun _ => none) [1, 3, 4, 5] [1, 17, 200] ?_
      simp only [go_sem, reduceIte, reduceCtorEq, zA, zM, zE, zL, zD, zS, zP, zB, zI, zR, hrl, hlen, htk, htl]
      repeat with_reducible refine cj ?_ ?_
      all_goals try first | omega | (simp [scP, scalar]; done) | exact scP_words _ | exact scP_ints _ | exact scP_bools _
      refine hK3 _ _ _ ?_; clear hK3
      refine AW.adoptK 200 i 0 17 ?_
      simp only [go_sem, reduceIte, zE, hgl, hsl, hll]
      repeat refine cj ?_ ?_
      any_goals first | exact noOsl_bools _ | decide | (rw [hrw]; done) | omega
      refine AW.keep [1, 3, 4, 5] [1, 200] ?_
      simp only [go_sem, reduceIte, zE, hap]
      refine AW.rg [1,3,4,5] [1,200] (e2 @hrl @hlen) ?_
      -- again 1
      rw [← hQl1]; change Exists _
      refine ⟨_, ?hm, i + 1, ?_, ?_, ?_, ?_, rfl, ?henv, ?hstore, ?hst⟩
      case henv =>
        repeat' (first | rfl | refine env_cons ?_ ?_ | refine st_cons ?_ ?_ ?_ ?_ | refine int_eq ?_ | refine bool_eq ?_ | refine rsl_eq ?_ | refine osl_eq ?_ | refine sl_eq ?_ ?_ ?_ | refine ptr_eq ?_ ?_ ?_ | refine agg_eq ?_ | refine es_cons ?_ ?_ | refine row_cons ?_ ?_)
        all_goals (first | (simp; done) | omega | (simp; omega))
      case hstore =>
        repeat' (first | rfl | refine env_cons ?_ ?_ | refine st_cons ?_ ?_ ?_ ?_ | refine int_eq ?_ | refine bool_eq ?_ | refine rsl_eq ?_ | refine osl_eq ?_ | refine sl_eq ?_ ?_ ?_ | refine ptr_eq ?_ ?_ ?_ | refine agg_eq ?_ | refine es_cons ?_ ?_ | refine row_cons ?_ ?_)
        all_goals (rw [hti])
      case hst =>
        first | trivial | omega | (simp; done) | (simp; omega)
      case hm => omega
  · intro hb
    -- exit 0
    refine AW.exit ?_
    rw [← hQl1]
    refine hK1 _ _ _ ?_; clear hK1
    refine AW.sg [2] [200] (e2 @hrl @hlen) ?_
    -- ret 1
    rw [← hQr]
    refine AW.rt (e2 @hrl @hlen) ?_
    have hi : i = n := by omega
    subst hi
    rw [List.take_of_length_le (by omega : t.length ≤ i), List.take_of_length_le (by rw [rowsO_len]; omega), vwcF_rowsO]
    exact Wk.refl _
theorem rval_e (rs : List USet) (hl : longR rs) (hv : validR rs = false) : Reads Tryz.prog 49 false [relV rs] (.bool false) := by
  have h := rrvalid_r rs hl.1 hl.2
  rw [hv] at h
  unfold relV at *
  refine Reads.body (rs := [.tmp 2]) Tryz.func49 rfl Tryz.ntmps49 rfl (by simp) ?_
  generalize hQr : retQ _ _ _ = Qr
  -- block 7
  refine AW.sg [1] [1] trivial ?_
  refine AW.seq fun K1 hK1 => ?_
  refine AW.so 0 (fun ii => if ii = 1 then some (.reads false (.bool false)) else none) [1,9] [1] trivial ?_
  repeat with_reducible refine cj ?_ ?_
  all_goals try first | (exact h) | omega | exact ent (by kernel_rfl)
  refine AW.cn ?_ ?_
  · intro hb
    refine AW.sg [2] [] trivial ?_
    -- ret 1
    rw [← hQr]
    refine AW.rt trivial ?_
    exact Wk.refl _
  · intro hb
    exfalso; simp at hb
theorem rval_g (n : Nat) (t : List (List Bool)) (hs : Sq n t) (hn : n ≤ 512) : Reads Tryz.prog 49 false [relB t] (.bool (poB n t)) := by
  have hlen := hs.len
  have hlm : (t.map SB).length = n := by simp [hlen]
  have hW : ∀ x ∈ t.map SB, x.W.length ≤ 9223372036854775807 := fun x hx => by
    obtain ⟨b, hb, rfl⟩ := List.mem_map.1 hx
    have := setB_len (b := b) (by rw [hs.row b hb]; exact hn)
    simp only [SB]; omega
  have h := rrvalid_r (t.map SB) (by omega) hW
  rw [valid_tab hs hn, ← relB_SB] at h
  have ht := (table_r n t hs hn).old
  have hrl := rowsR_len t
  have hpo := poB_iff hs
  unfold relB at *
  refine Reads.body (rs := [.tmp 2]) Tryz.func49 rfl Tryz.ntmps49 rfl (by simp) ?_
  generalize hQr : retQ _ _ _ = Qr
  -- block 8
  refine AW.sg [1] [1] (e3 @hrl @hlen @bools_len) ?_
  refine AW.seq fun K1 hK1 => ?_
  refine AW.so 0 (fun ii => if ii = 1 then some (.reads false (.bool true)) else none) [1,9] [1] (e3 @hrl @hlen @bools_len) ?_
  repeat with_reducible refine cj ?_ ?_
  all_goals try first | (exact h) | omega | exact ent (by kernel_rfl)
  refine AW.cn ?_ ?_
  · intro hb
    exfalso; simp at hb
  · intro hb
    refine AW.skip ?_
    refine hK1 _ _ _ ?_; clear hK1
    refine AW.so 0 (fun ii => if ii = 1 then some (.reads false (.rsl 1 (rowsR t))) else none) [3] [] (e3 @hrl @hlen @bools_len) ?_
    repeat with_reducible refine cj ?_ ?_
    all_goals try first | (exact ht) | omega | exact ent (by kernel_rfl)
    refine AW.seq fun K2 hK2 => ?_
    refine AW.sg [3,4] [] (e3 @hrl @hlen @bools_len) ?_
    refine AW.block ?_
    refine AW.loopE (fun mm ee ss kk => ∃ (i : Nat), n - i = mm ∧ ee = [(3, .rsl 1 (rowsR t)), (4, .int .i64 (i : Nat))] ∧ ss = [] ∧ (i ≤ n ∧ ∀ a, a < i → atT t a a = false ∧ ∀ b c, b < n → c < n → atT t a b = true → atT t b c = true → atT t a c = true)) ?_ ?_
    -- init 1
    · exact ⟨_, 0, rfl, eD, eD, (⟨by omega, fun a ha => by omega⟩)⟩
    rintro mm ee ss kk ⟨i, rfl, rfl, rfl, hI⟩
    generalize hQl1 : thenQ _ _ = Ql1
    obtain ⟨hi, hal⟩ := hI
    refine AW.seq fun K3 hK3 => ?_
    refine AW.sg [3,4,15] [] (e3 @hrl @hlen @bools_len) ?_
    refine AW.cn ?_ ?_
    · intro hb
      have hgi := rowsR_get (t := t) (i := i) (by omega)
      have hri := hs.rowLen (i := i) (by omega)
      have hgii := bools_getD (l := rowT t i) (i := i) (by omega)
      have hat : atT t i i = (rowT t i).getD i false := rfl
      rw [← hat] at hgii
      refine AW.skip ?_
      refine hK3 _ _ _ ?_; clear hK3
      refine AW.seq fun K4 hK4 => ?_
      refine AW.block ?_
      refine AW.seq fun K5 hK5 => ?_
      refine AW.sg [3,4,24] [] (e2 @hrl (e5 @hlen @bools_len @hgi @hri @hgii)) ?_
      refine AW.cn ?_ ?_
      · intro hb
        refine AW.sg [2] [] (e3 @hrl @hlen @bools_len) ?_
        -- ret 2
        rw [← hQl1, ← hQr]
        refine AW.rt (e3 @hrl @hlen @bools_len) ?_
        have hf : poB n t = false := by
          cases e : poB n t with
          | false => rfl
          | true => have := (hpo.1 e).irr i (by omega); rw [hb] at this; cases this
        exact Wk.of_eq (by rw [hf])
      · intro hb
        have hir : atT t i i = false := by simpa using hb
        clear hb
        refine AW.skip ?_
        refine hK5 _ _ _ ?_; clear hK5
        refine AW.sg [3,4,5] [] (e3 @hrl @hlen @bools_len) ?_
        refine AW.block ?_
        refine AW.loopE (fun mm ee ss kk => ∃ (j : Nat), n - j = mm ∧ ee = [(3, .rsl 1 (rowsR t)), (4, .int .i64 (i : Nat)), (5, .int .i64 (j : Nat))] ∧ ss = [] ∧ (j ≤ n ∧ ∀ b c, b < j → c < n → atT t i b = true → atT t b c = true → atT t i c = true)) ?_ ?_
        -- init 2
        · exact ⟨_, 0, rfl, eD, eD, (⟨by omega, fun b c hb => by omega⟩)⟩
        rintro mm ee ss kk ⟨j, rfl, rfl, rfl, hI⟩
        generalize hQl2 : thenQ _ _ = Ql2
        obtain ⟨hj, hal2⟩ := hI
        refine AW.seq fun K6 hK6 => ?_
        refine AW.sg [3,4,5,28] [] (e3 @hrl @hlen @bools_len) ?_
        refine AW.cn ?_ ?_
        · intro hb
          have hgj := rowsR_get (t := t) (i := j) (by omega)
          have hrj := hs.rowLen (i := j) (by omega)
          have hgij := bools_getD (l := rowT t i) (i := j) (by omega)
          have hatij : atT t i j = (rowT t i).getD j false := rfl
          rw [← hatij] at hgij
          refine AW.skip ?_
          refine hK6 _ _ _ ?_; clear hK6
          refine AW.seq fun K7 hK7 => ?_
          refine AW.block ?_
          refine AW.sg [3,4,5,6] [] (e3 @hrl @hlen @bools_len) ?_
          refine AW.block ?_
          refine AW.loopE (fun mm ee ss kk => ∃ (k : Nat), n - k = mm ∧ ee = [(3, .rsl 1 (rowsR t)), (4, .int .i64 (i : Nat)), (5, .int .i64 (j : Nat)), (6, .int .i64 (k : Nat))] ∧ ss = [] ∧ (k ≤ n ∧ ∀ c, c < k → atT t i j = true → atT t j c = true → atT t i c = true)) ?_ ?_
          -- init 3
          · exact ⟨_, 0, rfl, eD, eD, (⟨by omega, fun c hc => by omega⟩)⟩
          rintro mm ee ss kk ⟨k, rfl, rfl, rfl, hI⟩
          generalize hQl3 : thenQ _ _ = Ql3
          obtain ⟨hk, hal3⟩ := hI
          refine AW.seq fun K8 hK8 => ?_
          refine AW.sg [3,4,5,6,34] [] (e3 @hrl @hlen @bools_len) ?_
          refine AW.cn ?_ ?_
          · intro hb
            have hgjk := bools_getD (l := rowT t j) (i := k) (by omega)
            have hgik := bools_getD (l := rowT t i) (i := k) (by omega)
            have hatjk : atT t j k = (rowT t j).getD k false := rfl
            have hatik : atT t i k = (rowT t i).getD k false := rfl
            rw [← hatjk] at hgjk
            rw [← hatik] at hgik
            refine AW.skip ?_
            refine hK8 _ _ _ ?_; clear hK8
            refine AW.seq fun K9 hK9 => ?_
            refine AW.block ?_
            refine AW.sg [3,4,5,6,62] [] (e2 @hrl (e5 @hlen @bools_len @hgi @hri (e5 @hgj @hrj @hgij @hgjk @hgik))) ?_
            repeat with_reducible refine cj ?_ ?_
            all_goals try first | ((intro hh; (repeat' apply And.intro) <;> first | exact hh | omega)) | (intros; (repeat' apply And.intro) <;> first | assumption | ((intro hh; (repeat' apply And.intro) <;> first | exact hh | omega))) | omega | (intro hgd; exact absurd hgd (by decide)) | rfl | (simp only [go_sem, reduceIte, reduceCtorEq, zA, zM, zE, zL, zD, zS, zP, zB, zI, zR, hrl, hlen, bools_len, hgi, hri, hgj, hrj, hgij, hgjk, hgik]; done) | (intro _hgd; simp_all [go_sem]; done)
            refine AW.cn ?_ ?_
            · intro hb
              refine AW.sg [2] [] (e3 @hrl @hlen @bools_len) ?_
              -- ret 3
              rw [← hQl3, ← hQl2, ← hQl1, ← hQr]
              refine AW.rt (e3 @hrl @hlen @bools_len) ?_
              have hf : poB n t = false := by
                cases e : poB n t with
                | false => rfl
                | true => have := (hpo.1 e).trans i j k (by omega) (by omega) (by omega) hb.1.1 hb.1.2; rw [hb.2] at this; cases this
              exact Wk.of_eq (by rw [hf])
            · intro hb
              refine AW.skip ?_
              refine hK9 _ _ _ ?_; clear hK9
              refine AW.rg [3,4,5,6] [] (e3 @hrl @hlen @bools_len) ?_
              -- again 3
              rw [← hQl3]; change Exists _
              refine ⟨_, eO, k + 1, rfl, eD, eD, ?_⟩
              refine ⟨by omega, fun c hc h1 h2 => ?_⟩
              by_cases e : c = k
              · subst e
                revert hb; rw [h1, h2]; cases atT t i c <;> simp
              · exact hal3 c (by omega) h1 h2
          · intro hb
            have hk2 : k = n := by omega
            -- exit 4
            refine AW.kx [3,4,5] [] ?_
            rw [← hQl3]
            refine hK7 _ _ _ ?_; clear hK7
            refine AW.rg [3,4,5] [] (e3 @hrl @hlen @bools_len) ?_
            -- again 2
            rw [← hQl2]; change Exists _
            refine ⟨_, eO, j + 1, rfl, eD, eD, ?_⟩
            refine ⟨by omega, fun b c hb2 hc h1 h2 => ?_⟩
            by_cases e : b = j
            · subst e; exact hal3 c (by omega) h1 h2
            · exact hal2 b c (by omega) hc h1 h2
        · intro hb
          have hj2 : j = n := by omega
          -- exit 2
          refine AW.kx [3,4] [] ?_
          rw [← hQl2]
          refine hK4 _ _ _ ?_; clear hK4
          refine AW.rg [3,4] [] (e3 @hrl @hlen @bools_len) ?_
          -- again 1
          rw [← hQl1]; change Exists _
          refine ⟨_, eO, i + 1, rfl, eD, eD, ?_⟩
          refine ⟨by omega, fun a ha => ?_⟩
          by_cases e : a = i
          · subst e; exact ⟨hir, fun b c hb2 hc => hal2 b c (by omega) hc⟩
          · exact hal a (by omega)
    · intro hb
      -- exit 0
      refine AW.kx [] [] ?_
      rw [← hQl1]
      refine hK2 _ _ _ ?_; clear hK2
      refine AW.sg [2] [] (e3 @hrl @hlen @bools_len) ?_
      -- ret 4
      rw [← hQr]
      refine AW.rt (e3 @hrl @hlen @bools_len) ?_
      have hi2 : i = n := by omega
      have hp : IsPo n t := ⟨fun a ha => (hal a (by omega)).1, fun a b c ha hb2 hc => (hal a (by omega)).2 b c hb2 hc⟩
      exact Wk.of_eq (by rw [hpo.2 hp])
theorem rinverse_r (n : Nat) (t : List (List Bool)) (hs : Sq n t) (hn : n ≤ 512) : Reads Tryz.prog 72 true [.rsl 1 (rowsR t)] (.rsl 1 (rowsR (invT n t))) := by
  have hlen := hs.len
  have hrl := rowsR_len t
  have hsi : Sq n (invT n t) := Sq.inv
  have hil := hsi.len
  have hai := fun i j hi hj => atT_inv (n := n) (t := t) (i := i) (j := j) hi hj
  generalize invT n t = u at *
  refine Reads.bodyF (rs := [.tmp 2]) Tryz.func72 rfl Tryz.ntmps72 rfl (by simp) ?_
  generalize hQr : retQ _ _ _ = Qr
  -- block 9
  refine AW.sg [0] [] (e2 @hrl @hlen) ?_
  refine AW.sg [0,3] [] (e2 @hrl @hlen) ?_
  refine AW.seq fun K1 hK1 => ?_
  refine AW.sg [0,3,4] [] (e2 @hrl @hlen) ?_
  refine AW.block ?_
  refine AW.nilOwn 3 200 1 (by simp only [go_sem, reduceIte, zE]) ?_
  refine AW.keep [0, 3, 4] [200] ?_
  simp only [go_sem, reduceIte, zE]
  refine AW.loopE (fun mm ee ss kk => ∃ (i g v : Nat), n - i = mm ∧ ee = [(0, .rsl 1 (rowsR t)), (3, .sl ⟨200, g, none⟩ 0 i none), (4, .int .i64 (i : Nat))] ∧ ss = [(200, some ⟨g, v, 1, rowsO (u.take i)⟩)] ∧ (i ≤ n)) ?_ ?_
  -- init 1
  · exact ⟨_, 0, _, _, rfl, eD, eD, eT⟩
  rintro mm ee ss kk ⟨i, g, v, rfl, rfl, rfl, hI⟩
  generalize hQl1 : thenQ _ _ = Ql1
  refine AW.seq fun K2 hK2 => ?_
  refine AW.sg [0,3,4,10] [200] (e2 @hrl @hlen) ?_
  refine AW.cn ?_ ?_
  · intro hb
    have hrw := hsi.rowLen (i := i) (by omega)
    have hti := take_succT (t := u) (i := i) (by omega)
    have htl : (rowsO (u.take i)).length = i := by rw [rowsO_len]; simp; omega
    have htk : (rowsO (u.take i)).take i = rowsO (u.take i) := List.take_of_length_le (by omega)
    have hrow : ∀ j, j < n → (rowT u i).getD j false = atT t j i := fun j hj => hai i j (by omega) hj
    generalize hb' : rowT u i = b at *
    have hap := rowsO_app (u.take i) b
    have hgl := fun x => app_get (rowsO (u.take i)) x htl
    have hsl := fun x y => app_set (rowsO (u.take i)) x y htl
    have hll := fun x => app_len (rowsO (u.take i)) x htl
    refine AW.skip ?_
    refine hK2 _ _ _ ?_; clear hK2
    refine AW.seq fun K3 hK3 => ?_
    refine AW.block ?_
    refine AW.sg [0,3,4,5] [15,200] (e2 @hrl @hlen) ?_
    refine AW.seq fun K4 hK4 => ?_
    refine AW.sg [0,3,4,5,6] [15,200] (e2 @hrl @hlen) ?_
    refine AW.block ?_
    refine AW.loopE (fun mm ee ss kk => ∃ (j g17 v17 g v : Nat), n - j = mm ∧ ee = [(0, .rsl 1 (rowsR t)), (3, .sl ⟨200, g, none⟩ 0 i none), (4, .int .i64 (i : Nat)), (5, .sl ⟨15, g17, none⟩ 0 n none), (6, .int .i64 (j : Nat))] ∧ ss = [(15, some ⟨g17, v17, 1, bools (fillB b n j)⟩), (200, some ⟨g, v, 1, rowsO (u.take i)⟩)] ∧ (j ≤ n)) ?_ ?_
    -- init 2
    · refine ⟨_, 0, ?_, ?_, ?_, ?_, rfl, ?henv, ?hstore, ?hst⟩
      case henv =>
        repeat' (first | rfl | refine env_cons ?_ ?_ | refine st_cons ?_ ?_ ?_ ?_ | refine int_eq ?_ | refine bool_eq ?_ | refine rsl_eq ?_ | refine osl_eq ?_ | refine sl_eq ?_ ?_ ?_ | refine ptr_eq ?_ ?_ ?_ | refine agg_eq ?_ | refine es_cons ?_ ?_ | refine row_cons ?_ ?_)
        all_goals (first | (simp; done) | omega | (simp; omega))
      case hstore =>
        repeat' (first | rfl | refine env_cons ?_ ?_ | refine st_cons ?_ ?_ ?_ ?_ | refine int_eq ?_ | refine bool_eq ?_ | refine rsl_eq ?_ | refine osl_eq ?_ | refine sl_eq ?_ ?_ ?_ | refine ptr_eq ?_ ?_ ?_ | refine agg_eq ?_ | refine es_cons ?_ ?_ | refine row_cons ?_ ?_)
        all_goals (rw [fillB_zero]; simp [bools])
      case hst =>
        first | trivial | omega | (simp; done) | (simp; omega)
    rintro mm ee ss kk ⟨j, g17, v17, g, v, rfl, rfl, rfl, hI⟩
    generalize hQl2 : thenQ _ _ = Ql2
    refine AW.seq fun K5 hK5 => ?_
    refine AW.sg [0,3,4,5,6,19] [15,200] (e2 @hrl @hlen) ?_
    refine AW.cn ?_ ?_
    · intro hb
      have hfs := fillB_succ hrw (i := j) (by omega)
      have hfl := fillB_len hrw (i := j) (by omega)
      have hgr := rowsR_get (t := t) (i := j) (by omega)
      have hrj := hs.rowLen (i := j) (by omega)
      have hgb := bools_getD (l := rowT t j) (i := i) (by omega)
      have hat : (rowT t j).getD i false = atT t j i := rfl
      rw [hat] at hgb
      rw [hrow j (by omega)] at hfs
      refine AW.skip ?_
      refine hK5 _ _ _ ?_; clear hK5
      refine AW.seq fun K6 hK6 => ?_
      refine AW.block ?_
      refine AW.rg [0,3,4,5,6] [15,200] (e2 @hrl (e5 @hlen @hgr @hrj @hgb @hfl)) ?_
      refine hK6 _ _ _ ?_; clear hK6
      refine AW.rg [0,3,4,5,6] [15,200] (e2 @hrl @hlen) ?_
      -- again 2
      rw [← hQl2]; change Exists _
      refine ⟨_, ?hm, j + 1, ?_, ?_, ?_, ?_, rfl, ?henv, ?hstore, ?hst⟩
      case henv =>
        repeat' (first | rfl | refine env_cons ?_ ?_ | refine st_cons ?_ ?_ ?_ ?_ | refine int_eq ?_ | refine bool_eq ?_ | refine rsl_eq ?_ | refine osl_eq ?_ | refine sl_eq ?_ ?_ ?_ | refine ptr_eq ?_ ?_ ?_ | refine agg_eq ?_ | refine es_cons ?_ ?_ | refine row_cons ?_ ?_)
        all_goals (first | (simp; done) | omega | (simp; omega))
      case hstore =>
        repeat' (first | rfl | refine env_cons ?_ ?_ | refine st_cons ?_ ?_ ?_ ?_ | refine int_eq ?_ | refine bool_eq ?_ | refine rsl_eq ?_ | refine osl_eq ?_ | refine sl_eq ?_ ?_ ?_ | refine ptr_eq ?_ ?_ ?_ | refine agg_eq ?_ | refine es_cons ?_ ?_ | refine row_cons ?_ ?_)
        all_goals (rw [← hfs])
      case hst =>
        first | trivial | omega | (simp; done) | (simp; omega)
      case hm => omega
    · intro hb
      have hj : j = n := by omega
      subst hj
      rw [fillB_all hrw]
      -- exit 2
      refine AW.exit ?_
      rw [← hQl2]
      refine hK4 _ _ _ ?_; clear hK4
      refine AW.regionK 0 (fun _ => none) [0, 3, 4] [15, 200] ?_
      simp only [go_sem, reduceIte, reduceCtorEq, zA, zM, zE, zL, zD, zS, zP, zB, zI, zR, hrl, hlen, htk, htl]
      repeat with_reducible refine cj ?_ ?_
      all_goals try first | omega | (simp [scP, scalar]; done) | exact scP_words _ | exact scP_ints _ | exact scP_bools _
      refine hK3 _ _ _ ?_; clear hK3
      refine AW.adoptK 200 i 0 15 ?_
      simp only [go_sem, reduceIte, zE, hgl, hsl, hll]
      repeat refine cj ?_ ?_
      any_goals first | exact noOsl_bools _ | decide | (rw [hrw]; done) | omega
      refine AW.keep [0, 3, 4] [200] ?_
      simp only [go_sem, reduceIte, zE, hap]
      refine AW.rg [0,3,4] [200] (e2 @hrl @hlen) ?_
      -- again 1
      rw [← hQl1]; change Exists _
      refine ⟨_, ?hm, i + 1, ?_, ?_, rfl, ?henv, ?hstore, ?hst⟩
      case henv =>
        repeat' (first | rfl | refine env_cons ?_ ?_ | refine st_cons ?_ ?_ ?_ ?_ | refine int_eq ?_ | refine bool_eq ?_ | refine rsl_eq ?_ | refine osl_eq ?_ | refine sl_eq ?_ ?_ ?_ | refine ptr_eq ?_ ?_ ?_ | refine agg_eq ?_ | refine es_cons ?_ ?_ | refine row_cons ?_ ?_)
        all_goals (first | (simp; done) | omega | (simp; omega))
      case hstore =>
        repeat' (first | rfl | refine env_cons ?_ ?_ | refine st_cons ?_ ?_ ?_ ?_ | refine int_eq ?_ | refine bool_eq ?_ | refine rsl_eq ?_ | refine osl_eq ?_ | refine sl_eq ?_ ?_ ?_ | refine ptr_eq ?_ ?_ ?_ | refine agg_eq ?_ | refine es_cons ?_ ?_ | refine row_cons ?_ ?_)
        all_goals (rw [hti])
      case hst =>
        first | trivial | omega | (simp; done) | (simp; omega)
      case hm => omega
  · intro hb
    -- exit 0
    refine AW.exit ?_
    rw [← hQl1]
    refine hK1 _ _ _ ?_; clear hK1
    refine AW.sg [2] [200] (e2 @hrl @hlen) ?_
    -- ret 1
    rw [← hQr]
    refine AW.rt (e2 @hrl @hlen) ?_
    have hi : i = n := by omega
    subst hi
    rw [List.take_of_length_le (by omega : u.length ≤ i), List.take_of_length_le (by rw [rowsO_len]; omega), vwcF_rowsO]
    exact Wk.refl _
end Go.Proofs.B

/- Joins by the definition. -/
namespace Go.AM
def lq (t : List (List Bool)) (i x : Nat) : Bool := decide (i = x) || atT t i x
def jA (t : List (List Bool)) (i j k m : Nat) : Bool := (List.range m).all fun m => !(lq t i m && lq t j m && !lq t k m)
def jP (t : List (List Bool)) (n i j k : Nat) : Bool := lq t i k && lq t j k && jA t i j k n
def jnF (t : List (List Bool)) (n i j : Nat) : Int := ixf (jP t n i j) (List.range n)
theorem jA_succ (t : List (List Bool)) (i j k m : Nat) : jA t i j k (m + 1) = (jA t i j k m && !(lq t i m && lq t j m && !lq t k m)) := by
  unfold jA; rw [List.range_succ, List.all_append]; simp
theorem jA_iff {t : List (List Bool)} {i j k m : Nat} : jA t i j k m = true ↔ ∀ x, x < m → lq t i x = true → lq t j x = true → lq t k x = true := by
  unfold jA
  rw [List.all_eq_true]
  constructor
  · intro h x hx h1 h2
    have := h x (List.mem_range.2 hx)
    rw [h1, h2] at this
    simpa using this
  · intro h x hx
    cases h1 : lq t i x
    · rfl
    · cases h2 : lq t j x
      · rfl
      · rw [h x (List.mem_range.1 hx) h1 h2]; rfl
theorem ixf_map {α β : Type} (f : α → β) (p : β → Bool) (l : List α) : ixf p (l.map f) = ixf (fun a => p (f a)) l := by
  unfold ixf
  have h1 : (l.map f).any p = l.any fun a => p (f a) := by rw [List.any_map]; rfl
  have h2 : (l.map f).findIdx p = l.findIdx fun a => p (f a) := by
    rw [List.findIdx_map]; rfl
  rw [h1, h2]
theorem any_congr' {α : Type} {p q : α → Bool} : ∀ {l : List α}, (∀ x ∈ l, p x = q x) → l.any p = l.any q
  | [], _ => rfl
  | x :: l, h => by rw [List.any_cons, List.any_cons, h x (by simp), any_congr' fun y hy => h y (by simp [hy])]
theorem findIdx_congr' {α : Type} {p q : α → Bool} : ∀ {l : List α}, (∀ x ∈ l, p x = q x) → l.findIdx p = l.findIdx q
  | [], _ => rfl
  | x :: l, h => by rw [List.findIdx_cons, List.findIdx_cons, h x (by simp), findIdx_congr' fun y hy => h y (by simp [hy])]
theorem ixf_congr {α : Type} {p q : α → Bool} {l : List α} (h : ∀ x ∈ l, p x = q x) : ixf p l = ixf q l := by
  unfold ixf
  rw [any_congr' h, findIdx_congr' h]
theorem lq_trans {n : Nat} {t : List (List Bool)} (hp : IsPo n t) {i j k : Nat} (hi : i < n) (hj : j < n) (hk : k < n) (h1 : lq t i j = true) (h2 : lq t j k = true) : lq t i k = true := by
  unfold lq at *
  simp only [Bool.or_eq_true, decide_eq_true_eq] at *
  rcases h1 with rfl | h1
  · exact h2
  · rcases h2 with rfl | h2
    · exact .inr h1
    · exact .inr (hp.trans i j k hi hj hk h1 h2)
theorem lq_refl (t : List (List Bool)) (i : Nat) : lq t i i = true := by unfold lq; simp
theorem andR_at {n : Nat} {t : List (List Bool)} (hs : Sq n t) {i j x : Nat} (hi : i < n) (hj : j < n) (hx : x < n) : (andR (upR t n) i j).getD x false = (lq t i x && lq t j x) := by
  have h1 : ((upR t n).getD i []).length = n := by rw [upR_get hi, List.length_set, hs.rowLen hi]
  have h2 : ((upR t n).getD j []).length = n := by rw [upR_get hj, List.length_set, hs.rowLen hj]
  have e1 := upR_at hs hi (x := x)
  have e2 := upR_at hs hj (x := x)
  unfold andR lq
  rw [← e1, ← e2]
  generalize (upR t n).getD i [] = a at *
  generalize (upR t n).getD j [] = b at *
  simp [List.getD_eq_getElem?_getD, List.getElem?_zipWith, show x < a.length by omega, show x < b.length by omega]
theorem andR_len {n : Nat} {t : List (List Bool)} (hs : Sq n t) {i j : Nat} (hi : i < n) (hj : j < n) : (andR (upR t n) i j).length = n := by
  unfold andR
  rw [List.length_zipWith, upR_get hi, upR_get hj, List.length_set, List.length_set, hs.rowLen hi, hs.rowLen hj, Nat.min_self]
/-- The equal row is the join's. -/
theorem bnd_jn {n : Nat} {t : List (List Bool)} (hs : Sq n t) (hp : IsPo n t) {i j : Nat} (hi : i < n) (hj : j < n) : bndF (upR t n) i j = jnF t n i j := by
  unfold bndF jnF
  have e : upR t n = (List.range n).map fun k => (rowT t k).set k true := rfl
  conv => lhs; rw [e]
  rw [ixf_map]
  refine ixf_congr fun k hk => ?_
  have hkn := List.mem_range.1 hk
  have hal := andR_len hs hi hj
  rw [← e]
  have hrl : ((rowT t k).set k true).length = n := by rw [List.length_set, hs.rowLen hkn]
  have hrx : ∀ x, ((rowT t k).set k true).getD x false = lq t k x := fun x => by
    have := upR_at hs hkn (x := x)
    rw [upR_get hkn] at this
    exact this
  rw [Bool.eq_iff_iff, decide_eq_true_eq]
  unfold jP
  rw [Bool.and_eq_true, Bool.and_eq_true, jA_iff]
  constructor
  · intro h
    have hh : ∀ x, x < n → lq t k x = (lq t i x && lq t j x) := fun x hx => by rw [← hrx x, h, andR_at hs hi hj hx]
    have h1 := hh k hkn
    rw [lq_refl, eq_comm, Bool.and_eq_true] at h1
    exact ⟨h1, fun x hx a b => by rw [hh x hx, a, b]; rfl⟩
  · rintro ⟨⟨h1, h2⟩, h3⟩
    refine row_ext hrl hal fun x hx => ?_
    rw [hrx x, andR_at hs hi hj hx, Bool.eq_iff_iff, Bool.and_eq_true]
    exact ⟨fun h => ⟨lq_trans hp hi hkn hx h1 h, lq_trans hp hj hkn hx h2 h⟩, fun h => h3 x hx h.1 h.2⟩
theorem bnd_comm (G : List (List Bool)) (i j : Nat) : bndF G i j = bndF G j i := by
  unfold bndF andR
  rw [List.zipWith_comm]
  have : (fun (a b : Bool) => b && a) = fun a b => a && b := by funext a b; exact Bool.and_comm b a
  rw [show (fun (b a : Bool) => a && b) = (fun (b a : Bool) => b && a) from by funext a b; exact Bool.and_comm b a]
theorem bnd_self {G : List (List Bool)} {i : Nat} (hi : i < G.length) : 0 ≤ bndF G i i := by
  unfold bndF
  rw [← decide_eq_true_iff (p := 0 ≤ _), ixf_ge, List.any_eq_true]
  refine ⟨G.getD i [], mem_getD hi _, decide_eq_true ?_⟩
  unfold andR
  generalize G.getD i [] = a
  induction a with
  | nil => rfl
  | cons x a ih => rw [List.zipWith_cons_cons, ← ih]; simp
/-- Is it a lattice, by all pairs of different elements? -/
def rlB (t : List (List Bool)) (n : Nat) : Bool := decide (0 < n) && (List.range n).all fun i => (List.range i).all fun j => decide (0 ≤ jnF t n i j) && decide (0 ≤ jnF (invT n t) n i j)
theorem lat_rl {n : Nat} {t : List (List Bool)} (hs : Sq n t) (hp : IsPo n t) : latB t n = rlB t n := by
  unfold latB rlB
  congr 1
  have hU := upR_len t n
  have hV := upR_len (invT n t) n
  have hmem : ∀ {G : List (List Bool)} {i : Nat}, G.length = n → i < n → (noneT (bndT G) i = true ↔ ∀ j, j < n → 0 ≤ bndF G i j) := fun {G} {i} hG hi => by
    unfold noneT
    rw [Bool.not_eq_true', decide_eq_false_iff_not, bndT_row (by omega), List.mem_map, hG]
    constructor
    · intro h j hj
      have := (ixf_lt (fun s => decide (s = andR G i j)) G).1
      apply Classical.byContradiction
      intro hn
      exact h ⟨j, List.mem_range.2 hj, by unfold bndF at *; omega⟩
    · rintro h ⟨j, hj, e⟩
      have := h j (List.mem_range.1 hj)
      omega
  rw [Bool.eq_iff_iff, List.all_eq_true, List.all_eq_true]
  constructor
  · intro h i hi
    have hin := List.mem_range.1 hi
    rw [List.all_eq_true]
    intro j hj
    have hji := List.mem_range.1 hj
    have h1 := h i hi
    rw [Bool.and_eq_true] at h1
    rw [Bool.and_eq_true, decide_eq_true_eq, decide_eq_true_eq, ← bnd_jn hs hp hin (by omega), ← bnd_jn Sq.inv hp.inv hin (by omega)]
    exact ⟨(hmem hU hin).1 h1.1 j (by omega), (hmem hV hin).1 h1.2 j (by omega)⟩
  · intro h i hi
    have hin := List.mem_range.1 hi
    have key : ∀ a b, a < n → b < n → 0 ≤ bndF (upR t n) a b ∧ 0 ≤ bndF (upR (invT n t) n) a b := fun a b ha hb => by
      have low : ∀ a b, a < n → b < a → 0 ≤ bndF (upR t n) a b ∧ 0 ≤ bndF (upR (invT n t) n) a b := fun a b ha hb => by
        have h1 := List.all_eq_true.1 (h a (List.mem_range.2 ha)) b (List.mem_range.2 hb)
        rw [Bool.and_eq_true, decide_eq_true_eq, decide_eq_true_eq, ← bnd_jn hs hp ha (by omega), ← bnd_jn Sq.inv hp.inv ha (by omega)] at h1
        exact h1
      rcases Nat.lt_trichotomy a b with hl | rfl | hl
      · rw [bnd_comm _ a b, bnd_comm (upR (invT n t) n) a b]; exact low b a hb hl
      · exact ⟨bnd_self (by omega), bnd_self (by omega)⟩
      · exact low a b ha hl
    rw [Bool.and_eq_true]
    exact ⟨(hmem hU hin).2 fun j hj => (key i j hin hj).1, (hmem hV hin).2 fun j hj => (key i j hin hj).2⟩
end Go.AM

namespace Go.Proofs.B
open Go.AM Go
set_option maxRecDepth 100000
set_option maxHeartbeats 4000000
def longG (x : USet) : Bool := decide ((20 : Int) < x.W.length)
theorem great1_r (x : USet) (hx : x.W.length ≤ 9223372036854775807) : Reads Tryz.prog 48 false [.agg (rowV x)] (.bool (longG x)) := by
  unfold rowV
  refine Reads.body (rs := [.tmp 2]) Tryz.func48 rfl Tryz.ntmps48 rfl (by simp) ?_
  generalize hQr : retQ _ _ _ = Qr
  -- block 1
  refine AW.sg [1] [1] trivial ?_
  refine AW.sg [2] [] trivial ?_
  -- ret 1
  rw [← hQr]
  refine AW.rt trivial ?_
  exact Wk.refl _
theorem ixg_r (rs : List USet) (hl : longR rs) : Reads Tryz.prog 29 false [.rsl 2 (rs.map rowV), .fn 48 []] (.int .i64 (ixf longG rs)) := by
  have hbp := fun x hxm => great1_r x (hl.2 x hxm)
  have hl1 := hl.1
  refine Reads.body (rs := [.tmp 4]) Tryz.func29 rfl Tryz.ntmps29 rfl (by simp) ?_
  generalize hQr : retQ _ _ _ = Qr
  -- block 2
  refine AW.sg [0,1] [] trivial ?_
  refine AW.seq fun K1 hK1 => ?_
  refine AW.sg [0,1,7,8] [] trivial ?_
  refine AW.block ?_
  refine AW.loopE (fun mm ee ss kk => ∃ (j : Nat), rs.length - j = mm ∧ ee = [(0, .rsl 2 (rs.map rowV)), (1, .fn 48 []), (7, .int .i64 rs.length), (8, .int .i64 (j : Nat))] ∧ ss = [] ∧ (j ≤ rs.length ∧ (rs.take j).any longG = false)) ?_ ?_
  -- init 1
  · exact ⟨_, 0, rfl, eD, eD, eT⟩
  rintro mm ee ss kk ⟨j, rfl, rfl, rfl, hI⟩
  generalize hQl1 : thenQ _ _ = Ql1
  obtain ⟨hj, hall⟩ := hI
  refine AW.sg [0,1,7,8,9] [] trivial ?_
  refine AW.seq fun K2 hK2 => ?_
  refine AW.cn ?_ ?_
  · intro hb
    obtain ⟨x, hx⟩ := getI (l := rs) (j := j) (by omega)
    have hgx := getV (f := rowV) hx
    have hats := any_take_succ (p := longG) hx
    have hbx := hbp x (List.mem_of_getElem? hx)
    refine AW.skip ?_
    refine hK2 _ _ _ ?_; clear hK2
    refine AW.seq fun K3 hK3 => ?_
    refine AW.block ?_
    refine AW.sg [0,1,5,7,8] [] trivial ?_
    refine AW.so 0 (fun ii => if ii = 5 then some (.reads false (.bool (longG x))) else none) [0,1,5,7,8,16] [] (e2 @hgx @rowV.eq_1) ?_
    repeat with_reducible refine cj ?_ ?_
    all_goals try first | (exact hbx) | omega | exact ent (by kernel_rfl)
    refine AW.cn ?_ ?_
    · intro hb
      refine AW.sg [4] [] trivial ?_
      -- ret 1
      rw [← hQl1, ← hQr]
      refine AW.rt trivial ?_
      exact Wk.of_eq (by rw [ixf_at hx hb hall])
    · intro hb
      refine AW.skip ?_
      refine hK3 _ _ _ ?_; clear hK3
      refine AW.rg [0,1,7,8] [] trivial ?_
      -- again 1
      rw [← hQl1]; change Exists _
      exact ⟨_, eO, j + 1, rfl, eD, eD, (⟨by omega, by rw [hats, hall, hb]; rfl⟩)⟩
  · intro hb
    -- exit 0
    refine AW.kx [] [] ?_
    rw [← hQl1]
    refine hK1 _ _ _ ?_; clear hK1
    refine AW.sg [4] [] trivial ?_
    -- ret 2
    rw [← hQr]
    refine AW.rt trivial ?_
    exact Wk.of_eq (by rw [List.take_of_length_le (by omega)] at hall; rw [ixf_none hall])
theorem ctg_r (rs : List USet) (hl : longR rs) : Reads Tryz.prog 47 false [.rsl 2 (rs.map rowV), .fn 48 []] (.bool (rs.any longG)) := by
  have h := ixg_r rs hl
  have hge := ixf_ge longG rs
  refine Reads.body (rs := [.tmp 4]) Tryz.func47 rfl Tryz.ntmps47 rfl (by simp) ?_
  generalize hQr : retQ _ _ _ = Qr
  -- block 3
  refine AW.sg [0,1] [] trivial ?_
  refine AW.so 0 (fun ii => if ii = 2 then some (.reads false (.int .i64 (ixf longG rs))) else none) [4] [] trivial ?_
  repeat with_reducible refine cj ?_ ?_
  all_goals try first | (exact h) | omega | exact ent (by kernel_rfl)
  -- ret 1
  rw [← hQr]
  refine AW.rt trivial ?_
  exact Wk.of_eq (by rw [hge])
def greatB (rs : List USet) : Bool := decide ((30 : Int) < rs.length) || rs.any longG
theorem great_r (rs : List USet) (hl : longR rs) : Reads Tryz.prog 10 false [relV rs] (.bool (greatB rs)) := by
  have h := Reads.flat (ctg_r rs hl) rfl
  have hl1 := hl.1
  unfold relV
  refine Reads.body (rs := [.tmp 2]) Tryz.func10 rfl Tryz.ntmps10 rfl (by simp) ?_
  generalize hQr : retQ _ _ _ = Qr
  -- block 4
  refine AW.sg [1] [1] trivial ?_
  refine AW.so 0 (fun ii => if ii = 7 then some (.reads true (.bool (rs.any longG))) else none) [2] [] trivial ?_
  repeat with_reducible refine cj ?_ ?_
  all_goals try first | ((intro hh; exact ⟨hh, h⟩)) | (intros; (repeat' apply And.intro) <;> first | assumption | ((intro hh; exact ⟨hh, h⟩))) | omega | exact ent (by kernel_rfl) | (intro hgd; exact absurd hgd (by decide)) | rfl | exact gD | (intro _hgd; simp_all [go_sem]; done)
  -- ret 1
  rw [← hQr]
  refine AW.rt trivial ?_
  exact Wk.of_eq (by unfold greatB; rfl)
theorem order_r (es : List (List AV)) (v : Bool) (h : Reads Tryz.prog 49 false [.agg [.rsl 2 es]] (.bool v)) : Reads Tryz.prog 11 false [.agg [.rsl 2 es]] (.bool v) := by
  refine Reads.body (rs := [.tmp 2]) Tryz.func11 rfl Tryz.ntmps11 rfl (by simp) ?_
  generalize hQr : retQ _ _ _ = Qr
  -- block 5
  refine AW.sg [1] [1] trivial ?_
  refine AW.so 0 (fun ii => if ii = 1 then some (.reads false (.bool v)) else none) [2] [] trivial ?_
  repeat with_reducible refine cj ?_ ?_
  all_goals try first | (exact h) | omega | exact ent (by kernel_rfl)
  -- ret 1
  rw [← hQr]
  refine AW.rt trivial ?_
  exact Wk.refl _
theorem leq_r (n : Nat) (t : List (List Bool)) (hs : Sq n t) (hn : n ≤ 512) (i x : Nat) (hi : i < n) (hx : x < n) : Reads Tryz.prog 74 false [.rsl 1 (rowsR t), .int .i64 (i : Nat), .int .i64 (x : Nat)] (.bool (lq t i x)) := by
  have hrl := rowsR_len t
  have hsl := hs.len
  have hg := rowsR_get (t := t) (i := i) (by omega)
  have hri := hs.rowLen hi
  have hgx := bools_getD (l := rowT t i) (i := x) (by omega)
  have hid : decide ((i : Int) = (x : Int)) = decide (i = x) := decide_eq_decide.2 (by omega)
  have hlq : lq t i x = (decide (i = x) || (rowT t i).getD x false) := rfl
  generalize rowT t i = r at *
  refine Reads.body (rs := [.tmp 6]) Tryz.func74 rfl Tryz.ntmps74 rfl (by simp) ?_
  generalize hQr : retQ _ _ _ = Qr
  -- block 6
  refine AW.sg [0,1,2] [] trivial ?_
  refine AW.sg [6] [] (e3 @hrl @hsl (e5 @hg @hgx @bools_len @hri @hid)) ?_
  repeat with_reducible refine cj ?_ ?_
  all_goals try first | omega | (intros; (repeat' apply And.intro) <;> first | assumption | omega | decide) | (intro hgd; exact absurd hgd (by decide)) | rfl | (simp only [go_sem, reduceIte, reduceCtorEq, zA, zM, zE, zL, zD, zS, zP, zB, zI, zR, hrl, hsl, hg, hgx, bools_len, hri, hid]; done) | (intro _hgd; simp_all [go_sem]; done)
  -- ret 1
  rw [← hQr]
  refine AW.rt trivial ?_
  exact Wk.of_eq (by rw [hlq])
theorem rjoin_r (n : Nat) (t : List (List Bool)) (hs : Sq n t) (hn : n ≤ 512) (i j : Nat) (hi : i < n) (hj : j < n) : Reads Tryz.prog 42 false [.rsl 1 (rowsR t), .int .i64 (i : Nat), .int .i64 (j : Nat)] (.int .i64 (jnF t n i j)) := by
  have hrl := rowsR_len t
  have hsl := hs.len
  have hq := fun a b ha hb => leq_r n t hs hn a b ha hb
  have hP : ∀ k, jP t n i j k = (lq t i k && lq t j k && jA t i j k n) := fun _ => rfl
  refine Reads.body (rs := [.tmp 6]) Tryz.func42 rfl Tryz.ntmps42 rfl (by simp) ?_
  generalize hQr : retQ _ _ _ = Qr
  -- block 7
  refine AW.sg [0,1,2] [] trivial ?_
  refine AW.seq fun K1 hK1 => ?_
  refine AW.sg [0,1,2,7] [] trivial ?_
  refine AW.block ?_
  refine AW.loopE (fun mm ee ss kk => ∃ (k : Nat), n - k = mm ∧ ee = [(0, .rsl 1 (rowsR t)), (1, .int .i64 (i : Nat)), (2, .int .i64 (j : Nat)), (7, .int .i64 (k : Nat))] ∧ ss = [] ∧ (k ≤ n ∧ ((List.range n).take k).any (jP t n i j) = false)) ?_ ?_
  -- init 1
  · exact ⟨_, 0, rfl, eD, eD, eT⟩
  rintro mm ee ss kk ⟨k, rfl, rfl, rfl, hI⟩
  generalize hQl1 : thenQ _ _ = Ql1
  obtain ⟨hk0, hall⟩ := hI
  refine AW.seq fun K2 hK2 => ?_
  refine AW.sg [0,1,2,7,13] [] (e2 @hrl @hsl) ?_
  refine AW.cn ?_ ?_
  · intro hb
    have hkn : k < n := by omega
    have hrk : (List.range n)[k]? = some k := List.getElem?_range hkn
    have hts := any_take_succ (p := jP t n i j) hrk
    have hik := hq i k hi hkn
    have hjk := hq j k hj hkn
    have hPk := hP k
    refine AW.skip ?_
    refine hK2 _ _ _ ?_; clear hK2
    refine AW.seq fun K3 hK3 => ?_
    refine AW.block ?_
    refine AW.seq fun K4 hK4 => ?_
    refine AW.so 0 (fun ii => if ii = 3 then some (.reads false (.bool (lq t i k))) else if ii = 9 then some (.reads false (.bool (lq t j k))) else none) [0,1,2,7,27] [] trivial ?_
    repeat with_reducible refine cj ?_ ?_
    all_goals try first | (first | exact hik | (intro hh; exact ⟨hh, hjk⟩)) | (intros; (repeat' apply And.intro) <;> first | assumption | (first | exact hik | (intro hh; exact ⟨hh, hjk⟩))) | omega | exact ent (by kernel_rfl) | (intro hgd; exact absurd hgd (by decide)) | rfl | exact gD | (intro _hgd; simp_all [go_sem]; done)
    refine AW.cn ?_ ?_
    · intro hb
      rw [hall, hPk, show (lq t i k && lq t j k) = false by rcases hb with hb | hb <;> simp [hb], Bool.false_and, Bool.or_false] at hts
      -- exit 1
      refine AW.kx [0,1,2,7] [] ?_
      refine hK3 _ _ _ ?_; clear hK3
      refine AW.rg [0,1,2,7] [] trivial ?_
      -- again 1
      rw [← hQl1]; change Exists _
      exact ⟨_, eO, k + 1, rfl, eD, eD, (⟨by omega, hts⟩)⟩
    · intro hb
      obtain ⟨hlik, hljk⟩ := hb
      rw [hlik, hljk, Bool.and_self, Bool.true_and] at hPk
      refine AW.skip ?_
      refine hK4 _ _ _ ?_; clear hK4
      refine AW.sg [0,1,2,7,8] [] trivial ?_
      refine AW.seq fun K5 hK5 => ?_
      refine AW.sg [0,1,2,7,8,9] [] trivial ?_
      refine AW.block ?_
      refine AW.loopE (fun mm ee ss kk => ∃ (m : Nat), n - m = mm ∧ ee = [(0, .rsl 1 (rowsR t)), (1, .int .i64 (i : Nat)), (2, .int .i64 (j : Nat)), (7, .int .i64 (k : Nat)), (8, .bool (jA t i j k m)), (9, .int .i64 (m : Nat))] ∧ ss = [] ∧ (m ≤ n)) ?_ ?_
      -- init 2
      · exact ⟨_, 0, rfl, eD, eD, eT⟩
      rintro mm ee ss kk ⟨m, rfl, rfl, rfl, hI⟩
      generalize hQl2 : thenQ _ _ = Ql2
      refine AW.seq fun K6 hK6 => ?_
      refine AW.sg [0,1,2,7,8,9,31] [] (e2 @hrl @hsl) ?_
      refine AW.cn ?_ ?_
      · intro hb
        have hmn : m < n := by omega
        have him := hq i m hi hmn
        have hjm := hq j m hj hmn
        have hkm := hq k m hkn hmn
        have has := jA_succ t i j k m
        refine AW.skip ?_
        refine hK6 _ _ _ ?_; clear hK6
        refine AW.seq fun K7 hK7 => ?_
        refine AW.block ?_
        refine AW.so 0 (fun ii => if ii = 3 then some (.reads false (.bool (lq t i m))) else if ii = 8 then some (.reads false (.bool (lq t j m))) else if ii = 14 then some (.reads false (.bool (lq t k m))) else none) [0,1,2,7,8,9,50] [] trivial ?_
        repeat with_reducible refine cj ?_ ?_
        all_goals try first | (first | exact him | (intro hh; exact ⟨hh, hjm⟩) | (intro hh; exact ⟨hh, hkm⟩)) | (intros; (repeat' apply And.intro) <;> first | assumption | (first | exact him | (intro hh; exact ⟨hh, hjm⟩) | (intro hh; exact ⟨hh, hkm⟩))) | omega | exact ent (by kernel_rfl) | (intro hgd; exact absurd hgd (by decide)) | rfl | exact gD | (intro _hgd; simp_all [go_sem]; done)
        refine AW.cn ?_ ?_
        · intro hb
          rw [show (lq t i m && lq t j m && !lq t k m) = true by simp [hb], Bool.not_true, Bool.and_false] at has
          refine AW.rg [0,1,2,7,8,9] [] trivial ?_
          refine hK7 _ _ _ ?_; clear hK7
          refine AW.rg [0,1,2,7,8,9] [] trivial ?_
          -- again 2
          rw [← hQl2]; change Exists _
          refine ⟨_, ?hm, m + 1, rfl, ?henv, ?hstore, ?hst⟩
          case henv =>
            repeat' (first | rfl | refine env_cons ?_ ?_ | refine st_cons ?_ ?_ ?_ ?_ | refine int_eq ?_ | refine bool_eq ?_ | refine rsl_eq ?_ | refine osl_eq ?_ | refine sl_eq ?_ ?_ ?_ | refine ptr_eq ?_ ?_ ?_ | refine agg_eq ?_ | refine es_cons ?_ ?_ | refine row_cons ?_ ?_)
            all_goals (first | (rw [has]; done) | (simp; done) | omega)
          case hstore =>
            repeat' (first | rfl | refine env_cons ?_ ?_ | refine st_cons ?_ ?_ ?_ ?_ | refine int_eq ?_ | refine bool_eq ?_ | refine rsl_eq ?_ | refine osl_eq ?_ | refine sl_eq ?_ ?_ ?_ | refine ptr_eq ?_ ?_ ?_ | refine agg_eq ?_ | refine es_cons ?_ ?_ | refine row_cons ?_ ?_)
            all_goals (first | (simp; done) | omega | (simp; omega))
          case hst =>
            first | trivial | omega | (simp; done) | (simp; omega)
          case hm => omega
        · intro hb
          rw [show (lq t i m && lq t j m && !lq t k m) = false by revert hb; cases lq t i m <;> cases lq t j m <;> cases lq t k m <;> simp, Bool.not_false, Bool.and_true] at has
          refine AW.skip ?_
          refine hK7 _ _ _ ?_; clear hK7
          refine AW.rg [0,1,2,7,8,9] [] trivial ?_
          -- again 2
          rw [← hQl2]; change Exists _
          refine ⟨_, ?hm, m + 1, rfl, ?henv, ?hstore, ?hst⟩
          case henv =>
            repeat' (first | rfl | refine env_cons ?_ ?_ | refine st_cons ?_ ?_ ?_ ?_ | refine int_eq ?_ | refine bool_eq ?_ | refine rsl_eq ?_ | refine osl_eq ?_ | refine sl_eq ?_ ?_ ?_ | refine ptr_eq ?_ ?_ ?_ | refine agg_eq ?_ | refine es_cons ?_ ?_ | refine row_cons ?_ ?_)
            all_goals (first | (rw [has]; done) | (simp; done) | omega)
          case hstore =>
            repeat' (first | rfl | refine env_cons ?_ ?_ | refine st_cons ?_ ?_ ?_ ?_ | refine int_eq ?_ | refine bool_eq ?_ | refine rsl_eq ?_ | refine osl_eq ?_ | refine sl_eq ?_ ?_ ?_ | refine ptr_eq ?_ ?_ ?_ | refine agg_eq ?_ | refine es_cons ?_ ?_ | refine row_cons ?_ ?_)
            all_goals (first | (simp; done) | omega | (simp; omega))
          case hst =>
            first | trivial | omega | (simp; done) | (simp; omega)
          case hm => omega
      · intro hb
        have hm : m = n := by omega
        subst hm
        -- exit 2
        refine AW.kx [0,1,2,7,8] [] ?_
        rw [← hQl2]
        refine hK5 _ _ _ ?_; clear hK5
        refine AW.sg [0,1,2,7,51] [] trivial ?_
        refine AW.cn ?_ ?_
        · intro hb
          refine AW.sg [6] [] trivial ?_
          -- ret 1
          rw [← hQl1, ← hQr]
          refine AW.rt trivial ?_
          exact Wk.of_eq (by unfold jnF; rw [ixf_at hrk (by rw [hPk]; exact hb) hall])
        · intro hb
          rw [hall, hPk, hb, Bool.or_false] at hts
          refine AW.skip ?_
          refine hK3 _ _ _ ?_; clear hK3
          refine AW.rg [0,1,2,7] [] trivial ?_
          -- again 1
          rw [← hQl1]; change Exists _
          exact ⟨_, eO, k + 1, rfl, eD, eD, (⟨by omega, hts⟩)⟩
  · intro hb
    -- exit 0
    refine AW.kx [] [] ?_
    rw [← hQl1]
    refine hK1 _ _ _ ?_; clear hK1
    refine AW.sg [6] [] trivial ?_
    -- ret 2
    rw [← hQr]
    refine AW.rt trivial ?_
    exact Wk.of_eq (by unfold jnF; rw [List.take_of_length_le (by rw [List.length_range]; omega)] at hall; rw [ixf_none hall])
theorem rmeet_r (n : Nat) (t : List (List Bool)) (hs : Sq n t) (hn : n ≤ 512) (i j : Nat) (hi : i < n) (hj : j < n) : Reads Tryz.prog 43 false [.rsl 1 (rowsR t), .int .i64 (i : Nat), .int .i64 (j : Nat)] (.int .i64 (jnF (invT n t) n i j)) := by
  have h1 := (rinverse_r n t hs hn).old
  have h2 := rjoin_r n (invT n t) Sq.inv hn i j hi hj
  refine Reads.body (rs := [.tmp 6]) Tryz.func43 rfl Tryz.ntmps43 rfl (by simp) ?_
  generalize hQr : retQ _ _ _ = Qr
  -- block 8
  refine AW.sg [0,1,2] [] trivial ?_
  refine AW.so 0 (fun ii => if ii = 1 then some (.reads false (.rsl 1 (rowsR (invT n t)))) else if ii = 4 then some (.reads false (.int .i64 (jnF (invT n t) n i j))) else none) [6] [] trivial ?_
  repeat with_reducible refine cj ?_ ?_
  all_goals try first | (first | exact h1 | exact h2) | omega | exact ent (by kernel_rfl)
  -- ret 1
  rw [← hQr]
  refine AW.rt trivial ?_
  exact Wk.refl _
theorem rislat_r (n : Nat) (t : List (List Bool)) (hs : Sq n t) (hn : n ≤ 512) : Reads Tryz.prog 37 false [.rsl 1 (rowsR t)] (.bool (rlB t n)) := by
  have hrl := rowsR_len t
  have hsl := hs.len
  have hjn := fun i j hi hj => rjoin_r n t hs hn i j hi hj
  have hmt := fun i j hi hj => rmeet_r n t hs hn i j hi hj
  have hno : ∀ i j, i < n → j < i → (jnF t n i j < 0 ∨ jnF (invT n t) n i j < 0) → rlB t n = false := fun i j hi hj h => by
    unfold rlB
    rw [Bool.and_eq_false_iff]
    right
    rw [← Bool.not_eq_true, List.all_eq_true]
    intro hh
    have h1 := List.all_eq_true.1 (hh i (List.mem_range.2 hi)) j (List.mem_range.2 hj)
    rw [Bool.and_eq_true, decide_eq_true_eq, decide_eq_true_eq] at h1
    omega
  refine Reads.body (rs := [.tmp 2]) Tryz.func37 rfl Tryz.ntmps37 rfl (by simp) ?_
  generalize hQr : retQ _ _ _ = Qr
  -- block 9
  refine AW.sg [0] [] trivial ?_
  refine AW.seq fun K1 hK1 => ?_
  refine AW.sg [0,3] [] trivial ?_
  refine AW.block ?_
  refine AW.loopE (fun mm ee ss kk => ∃ (i : Nat), n - i = mm ∧ ee = [(0, .rsl 1 (rowsR t)), (3, .int .i64 (i : Nat))] ∧ ss = [] ∧ (i ≤ n ∧ ∀ a, a < i → ∀ b, b < a → 0 ≤ jnF t n a b ∧ 0 ≤ jnF (invT n t) n a b)) ?_ ?_
  -- init 1
  · exact ⟨_, 0, rfl, eD, eD, (⟨by omega, fun a ha => by omega⟩)⟩
  rintro mm ee ss kk ⟨i, rfl, rfl, rfl, hI⟩
  generalize hQl1 : thenQ _ _ = Ql1
  obtain ⟨hi0, hAA⟩ := hI
  refine AW.seq fun K2 hK2 => ?_
  refine AW.sg [0,3,8] [] (e2 @hrl @hsl) ?_
  refine AW.cn ?_ ?_
  · intro hb
    have hin : i < n := by omega
    refine AW.skip ?_
    refine hK2 _ _ _ ?_; clear hK2
    refine AW.seq fun K3 hK3 => ?_
    refine AW.block ?_
    refine AW.sg [0,3,4] [] trivial ?_
    refine AW.block ?_
    refine AW.loopE (fun mm ee ss kk => ∃ (j : Nat), i - j = mm ∧ ee = [(0, .rsl 1 (rowsR t)), (3, .int .i64 (i : Nat)), (4, .int .i64 (j : Nat))] ∧ ss = [] ∧ (j ≤ i ∧ ∀ b, b < j → 0 ≤ jnF t n i b ∧ 0 ≤ jnF (invT n t) n i b)) ?_ ?_
    -- init 2
    · exact ⟨_, 0, rfl, eD, eD, (⟨by omega, fun a ha => by omega⟩)⟩
    rintro mm ee ss kk ⟨j, rfl, rfl, rfl, hI⟩
    generalize hQl2 : thenQ _ _ = Ql2
    obtain ⟨hj0, hBB⟩ := hI
    refine AW.seq fun K4 hK4 => ?_
    refine AW.sg [0,3,4,13] [] trivial ?_
    refine AW.cn ?_ ?_
    · intro hb
      have hji : j < i := by omega
      have h1 := hjn i j hin (by omega)
      have h2 := hmt i j hin (by omega)
      refine AW.skip ?_
      refine hK4 _ _ _ ?_; clear hK4
      refine AW.seq fun K5 hK5 => ?_
      refine AW.block ?_
      refine AW.so 0 (fun ii => if ii = 3 then some (.reads false (.int .i64 (jnF t n i j))) else if ii = 9 then some (.reads false (.int .i64 (jnF (invT n t) n i j))) else none) [0,3,4,27] [] trivial ?_
      repeat with_reducible refine cj ?_ ?_
      all_goals try first | (first | exact h1 | (intro hh; exact ⟨hh, h2⟩)) | (intros; (repeat' apply And.intro) <;> first | assumption | (first | exact h1 | (intro hh; exact ⟨hh, h2⟩))) | omega | exact ent (by kernel_rfl) | (intro hgd; exact absurd hgd (by decide)) | rfl | exact gD | (intro _hgd; simp_all [go_sem]; done)
      refine AW.cn ?_ ?_
      · intro hb
        refine AW.sg [2] [] trivial ?_
        -- ret 1
        rw [← hQl2, ← hQl1, ← hQr]
        refine AW.rt trivial ?_
        exact Wk.of_eq (by rw [hno i j hin hji hb])
      · intro hb
        refine AW.skip ?_
        refine hK5 _ _ _ ?_; clear hK5
        refine AW.rg [0,3,4] [] trivial ?_
        -- again 2
        rw [← hQl2]; change Exists _
        refine ⟨_, eO, j + 1, rfl, eD, eD, ?_⟩
        refine ⟨by omega, fun b hb' => ?_⟩; rcases Nat.lt_succ_iff_lt_or_eq.1 hb' with h | h; exact hBB b h; subst h; exact ⟨by omega, by omega⟩
    · intro hb
      -- exit 2
      refine AW.kx [0,3] [] ?_
      rw [← hQl2]
      refine hK3 _ _ _ ?_; clear hK3
      refine AW.rg [0,3] [] trivial ?_
      -- again 1
      rw [← hQl1]; change Exists _
      refine ⟨_, eO, i + 1, rfl, eD, eD, ?_⟩
      refine ⟨by omega, fun a ha b hb' => ?_⟩; rcases Nat.lt_succ_iff_lt_or_eq.1 ha with h | h; exact hAA a h b hb'; subst h; exact hBB b (by omega)
  · intro hb
    -- exit 0
    refine AW.kx [0] [] ?_
    rw [← hQl1]
    refine hK1 _ _ _ ?_; clear hK1
    refine AW.sg [2] [] (e2 @hrl @hsl) ?_
    -- ret 2
    rw [← hQr]
    refine AW.rt trivial ?_
    refine Wk.of_eq (congrArg AV.bool ?_)
    unfold rlB
    rw [show ((List.range n).all fun i => (List.range i).all fun j => decide (0 ≤ jnF t n i j) && decide (0 ≤ jnF (invT n t) n i j)) = true from List.all_eq_true.2 fun a ha => List.all_eq_true.2 fun b hb' => by
      have := hAA a (by have := List.mem_range.1 ha; omega) b (List.mem_range.1 hb')
      rw [decide_eq_true this.1, decide_eq_true this.2]; rfl, Bool.and_true]
    exact decide_eq_decide.2 (by omega)
end Go.Proofs.B

namespace Go.Proofs.B
open Go.AM Go
set_option maxRecDepth 100000
set_option maxHeartbeats 4000000
def fndV (x e w : Int) : Bool := if w < 0 then decide (e = 7) && decide (x = 0) else decide (e = 0) && decide (x = w)
theorem found_r (x e w : Int) : Reads Tryz.prog 41 false [.int .i64 x, .int .i64 e, .int .i64 w] (.bool (fndV x e w)) := by
  refine Reads.body (rs := [.tmp 6]) Tryz.func41 rfl Tryz.ntmps41 rfl (by simp) ?_
  generalize hQr : retQ _ _ _ = Qr
  -- block 1
  refine AW.sg [0,1,2] [] trivial ?_
  refine AW.seq fun K1 hK1 => ?_
  refine AW.sg [0,1,2,8] [] trivial ?_
  refine AW.cn ?_ ?_
  · intro hb
    refine AW.sg [6] [] trivial ?_
    repeat with_reducible refine cj ?_ ?_
    all_goals try first | omega | (intros; (repeat' apply And.intro) <;> first | assumption | omega | decide) | (intro hgd; exact absurd hgd (by decide)) | rfl | exact gD | (intro _hgd; simp_all [go_sem]; done)
    -- ret 1
    rw [← hQr]
    refine AW.rt trivial ?_
    unfold fndV
    rw [if_pos hb]
    exact Wk.refl _
  · intro hb
    refine AW.skip ?_
    refine hK1 _ _ _ ?_; clear hK1
    refine AW.sg [6] [] trivial ?_
    repeat with_reducible refine cj ?_ ?_
    all_goals try first | omega | (intros; (repeat' apply And.intro) <;> first | assumption | omega | decide) | (intro hgd; exact absurd hgd (by decide)) | rfl | exact gD | (intro _hgd; simp_all [go_sem]; done)
    -- ret 2
    rw [← hQr]
    refine AW.rt trivial ?_
    unfold fndV
    rw [if_neg (by omega)]
    exact Wk.refl _
theorem fnd_one (z : Int) : ∃ x e : Int, oneV z = .tup [.int .i64 x, .int .i64 e] ∧ fndV x e z = true := by
  unfold oneV fndV
  by_cases h : z < 0
  · rw [if_pos h]; exact ⟨_, _, rfl, by rw [if_pos h]; simp⟩
  · rw [if_neg h]; exact ⟨_, _, rfl, by rw [if_neg h]; simp⟩
theorem joins_0 (rs : List USet) (hl : longR rs) (i j : Int) (h : greatB rs = true) : Reads Tryz.prog 7 false [relV rs, .int .i64 i, .int .i64 j] (.bool true) := by
  have ha := awake_r
  have hg := great_r rs hl
  rw [h] at hg
  unfold relV at *
  refine Reads.body (rs := [.tmp 6]) Tryz.func7 rfl Tryz.ntmps7 rfl (by simp) ?_
  generalize hQr : retQ _ _ _ = Qr
  -- block 2
  refine AW.sg [1,2,3] [3] trivial ?_
  refine AW.seq fun K1 hK1 => ?_
  refine AW.so 0 (fun ii => if ii = 0 then some (.reads false (.bool true)) else none) [1,2,3,13] [3] trivial ?_
  repeat with_reducible refine cj ?_ ?_
  all_goals try first | (exact ha) | omega | exact ent (by kernel_rfl)
  refine AW.cn ?_ ?_
  · intro hb
    exfalso; simp at hb
  · intro hb
    refine AW.skip ?_
    refine hK1 _ _ _ ?_; clear hK1
    refine AW.seq fun K2 hK2 => ?_
    refine AW.so 0 (fun ii => if ii = 1 then some (.reads false (.bool true)) else none) [1,2,3,15] [3] trivial ?_
    repeat with_reducible refine cj ?_ ?_
    all_goals try first | (exact hg) | omega | exact ent (by kernel_rfl)
    refine AW.cn ?_ ?_
    · intro hb
      refine AW.sg [6] [] trivial ?_
      -- ret 2
      rw [← hQr]
      refine AW.rt trivial ?_
      exact Wk.refl _
    · intro hb
      exfalso; simp at hb
theorem joins_e (rs : List USet) (hl : longR rs) (i j : Int) (h : greatB rs = false) (hv1 : Reads Tryz.prog 58 false [relV rs] (.bool false)) (hv2 : Reads Tryz.prog 49 false [relV rs] (.bool false)) : Reads Tryz.prog 7 false [relV rs, .int .i64 i, .int .i64 j] (.bool true) := by
  have ha := awake_r
  have hg := great_r rs hl
  rw [h] at hg
  have hl1 := hl.1
  unfold relV at *
  have hj := join_e _ i j hv1
  have hm := meet_e _ i j hv1
  have ho := order_r _ _ hv2
  have hi := islat_e _ .any .any (tables_e _ (by simpa using hl1) false hv1 (by simp))
  refine Reads.body (rs := [.tmp 6]) Tryz.func7 rfl Tryz.ntmps7 rfl (by simp) ?_
  generalize hQr : retQ _ _ _ = Qr
  -- block 3
  refine AW.sg [1,2,3] [3] trivial ?_
  refine AW.seq fun K1 hK1 => ?_
  refine AW.so 0 (fun ii => if ii = 0 then some (.reads false (.bool true)) else none) [1,2,3,13] [3] trivial ?_
  repeat with_reducible refine cj ?_ ?_
  all_goals try first | (exact ha) | omega | exact ent (by kernel_rfl)
  refine AW.cn ?_ ?_
  · intro hb
    exfalso; simp at hb
  · intro hb
    refine AW.skip ?_
    refine hK1 _ _ _ ?_; clear hK1
    refine AW.seq fun K2 hK2 => ?_
    refine AW.so 0 (fun ii => if ii = 1 then some (.reads false (.bool false)) else none) [1,2,3,15] [3] trivial ?_
    repeat with_reducible refine cj ?_ ?_
    all_goals try first | (exact hg) | omega | exact ent (by kernel_rfl)
    refine AW.cn ?_ ?_
    · intro hb
      exfalso; simp at hb
    · intro hb
      refine AW.skip ?_
      refine hK2 _ _ _ ?_; clear hK2
      refine AW.so 0 (fun ii => if ii = 3 then some (.reads false (.tup [.int .i64 0, .int .i64 1])) else none) [1,2,3,7,8] [3] trivial ?_
      repeat with_reducible refine cj ?_ ?_
      all_goals try first | (exact hj) | omega | exact ent (by kernel_rfl)
      refine AW.so 0 (fun ii => if ii = 3 then some (.reads false (.tup [.int .i64 0, .int .i64 1])) else none) [1,2,3,7,8,9,10] [3] trivial ?_
      repeat with_reducible refine cj ?_ ?_
      all_goals try first | (exact hm) | omega | exact ent (by kernel_rfl)
      refine AW.seq fun K3 hK3 => ?_
      refine AW.so 0 (fun ii => if ii = 1 then some (.reads false (.bool false)) else none) [1,2,3,7,8,9,10,32] [3] trivial ?_
      repeat with_reducible refine cj ?_ ?_
      all_goals try first | (exact ho) | omega | exact ent (by kernel_rfl)
      refine AW.cn ?_ ?_
      · intro hb
        refine AW.so 0 (fun ii => if ii = 1 then some (.reads false (.bool false)) else none) [6] [] trivial ?_
        repeat with_reducible refine cj ?_ ?_
        all_goals try first | (exact hi) | (intros; (repeat' apply And.intro) <;> first | assumption | (exact hi)) | omega | exact ent (by kernel_rfl) | (intro hgd; exact absurd hgd (by decide)) | rfl | exact gD | (intro _hgd; simp_all [go_sem]; done)
        -- ret 3
        rw [← hQr]
        refine AW.rt trivial ?_
        exact Wk.of_eq (by simp)
      · intro hb
        exfalso; simp at hb
theorem joins_o (n : Nat) (t : List (List Bool)) (hs : Sq n t) (hn : n ≤ 512) (hp : poB n t = true) (hf : greatB (t.map SB) = false) (i j : Int) (ho : ¬ (0 ≤ i ∧ i < n ∧ 0 ≤ j ∧ j < n)) : Reads Tryz.prog 7 false [relB t, .int .i64 i, .int .i64 j] (.bool true) := by
  have ha := awake_r
  have hg := great_r (t.map SB) (longR_SB hs hn)
  rw [hf, ← relB_SB] at hg
  have hj := join_g n t hs hn hp i j
  have hm := meet_g n t hs hn hp i j
  rw [show oneI t n i j = .tup [.int .i64 0, .int .i64 2] from if_neg ho] at hj
  rw [show oneI (invT n t) n i j = .tup [.int .i64 0, .int .i64 2] from if_neg ho] at hm
  have hv := rval_g n t hs hn
  rw [hp] at hv
  have hil := islat_g n t hs hn hp
  have hrl := rislat_r n t hs hn
  rw [← lat_rl hs ((poB_iff hs).1 hp)] at hrl
  have htb := (table_r n t hs hn).old
  have hlr : (rowsR t).length = n := by rw [rowsR_len, hs.len]
  unfold relB at *
  have hod := order_r _ _ hv
  generalize latB t n = lb at *
  generalize rowsR t = R at *
  refine Reads.body (rs := [.tmp 6]) Tryz.func7 rfl Tryz.ntmps7 rfl (by simp) ?_
  generalize hQr : retQ _ _ _ = Qr
  -- block 4
  refine AW.sg [1,2,3] [3] trivial ?_
  refine AW.seq fun K1 hK1 => ?_
  refine AW.so 0 (fun ii => if ii = 0 then some (.reads false (.bool true)) else none) [1,2,3,13] [3] trivial ?_
  repeat with_reducible refine cj ?_ ?_
  all_goals try first | (exact ha) | omega | exact ent (by kernel_rfl)
  refine AW.cn ?_ ?_
  · intro hb
    exfalso; simp at hb
  · intro hb
    refine AW.skip ?_
    refine hK1 _ _ _ ?_; clear hK1
    refine AW.seq fun K2 hK2 => ?_
    refine AW.so 0 (fun ii => if ii = 1 then some (.reads false (.bool false)) else none) [1,2,3,15] [3] trivial ?_
    repeat with_reducible refine cj ?_ ?_
    all_goals try first | (exact hg) | omega | exact ent (by kernel_rfl)
    refine AW.cn ?_ ?_
    · intro hb
      exfalso; simp at hb
    · intro hb
      refine AW.skip ?_
      refine hK2 _ _ _ ?_; clear hK2
      refine AW.so 0 (fun ii => if ii = 3 then some (.reads false (.tup [.int .i64 0, .int .i64 2])) else none) [1,2,3,7,8] [3] trivial ?_
      repeat with_reducible refine cj ?_ ?_
      all_goals try first | (exact hj) | omega | exact ent (by kernel_rfl)
      refine AW.so 0 (fun ii => if ii = 3 then some (.reads false (.tup [.int .i64 0, .int .i64 2])) else none) [1,2,3,7,8,9,10] [3] trivial ?_
      repeat with_reducible refine cj ?_ ?_
      all_goals try first | (exact hm) | omega | exact ent (by kernel_rfl)
      refine AW.seq fun K3 hK3 => ?_
      refine AW.so 0 (fun ii => if ii = 1 then some (.reads false (.bool true)) else none) [1,2,3,7,8,9,10,32] [3] trivial ?_
      repeat with_reducible refine cj ?_ ?_
      all_goals try first | (exact hod) | omega | exact ent (by kernel_rfl)
      refine AW.cn ?_ ?_
      · intro hb
        exfalso; simp at hb
      · intro hb
        refine AW.skip ?_
        refine hK3 _ _ _ ?_; clear hK3
        refine AW.so 0 (fun ii => if ii = 1 then some (.reads false (.rsl 1 R)) else none) [1,2,3,7,8,9,10,11] [3] trivial ?_
        repeat with_reducible refine cj ?_ ?_
        all_goals try first | (exact htb) | omega | exact ent (by kernel_rfl)
        refine AW.seq fun K4 hK4 => ?_
        refine AW.so 0 (fun ii => if ii = 1 then some (.reads false (.bool lb)) else if ii = 3 then some (.reads false (.bool lb)) else none) [1,2,7,8,9,10,11,58] [] trivial ?_
        repeat with_reducible refine cj ?_ ?_
        all_goals try first | (first | exact hil | exact hrl) | omega | exact ent (by kernel_rfl)
        refine AW.cn ?_ ?_
        · intro hb
          exfalso; simp at hb
        · intro hb
          refine AW.skip ?_
          refine hK4 _ _ _ ?_; clear hK4
          refine AW.seq fun K5 hK5 => ?_
          refine AW.sg [1,2,7,8,9,10,11,76] [] (@hlr) ?_
          repeat with_reducible refine cj ?_ ?_
          all_goals try first | omega | (intros; (repeat' apply And.intro) <;> first | assumption | omega | decide) | (intro hgd; exact absurd hgd (by decide)) | rfl | (simp only [go_sem, reduceIte, reduceCtorEq, zA, zM, zE, zL, zD, zS, zP, zB, zI, zR, hlr]; done) | (intro _hgd; simp_all [go_sem]; done)
          refine AW.cn ?_ ?_
          · intro hb
            refine AW.sg [6] [] trivial ?_
            repeat with_reducible refine cj ?_ ?_
            all_goals try first | omega | (intros; (repeat' apply And.intro) <;> first | assumption | omega | decide) | (intro hgd; exact absurd hgd (by decide)) | rfl | exact gD | (intro _hgd; simp_all [go_sem]; done)
            -- ret 5
            rw [← hQr]
            refine AW.rt trivial ?_
            exact Wk.of_eq (by simp)
          · intro hb
            exfalso; omega
theorem joins_g (n : Nat) (t : List (List Bool)) (hs : Sq n t) (hn : n ≤ 512) (hp : poB n t = true) (hf : greatB (t.map SB) = false) (i j : Nat) (hi : i < n) (hj0 : j < n) : Reads Tryz.prog 7 false [relB t, .int .i64 (i : Nat), .int .i64 (j : Nat)] (.bool true) := by
  have ha := awake_r
  have hg := great_r (t.map SB) (longR_SB hs hn)
  rw [hf, ← relB_SB] at hg
  have hpo := (poB_iff hs).1 hp
  have hj := join_g n t hs hn hp (i : Nat) (j : Nat)
  have hm := meet_g n t hs hn hp (i : Nat) (j : Nat)
  rw [show oneI t n (i : Nat) (j : Nat) = oneV (bndF (upR t n) i j) from if_pos (by omega), bnd_jn hs hpo hi hj0] at hj
  rw [show oneI (invT n t) n (i : Nat) (j : Nat) = oneV (bndF (upR (invT n t) n) i j) from if_pos (by omega), bnd_jn Sq.inv hpo.inv hi hj0] at hm
  have hv := rval_g n t hs hn
  rw [hp] at hv
  have hil := islat_g n t hs hn hp
  have hrl := rislat_r n t hs hn
  rw [← lat_rl hs hpo] at hrl
  have htb := (table_r n t hs hn).old
  have hlr : (rowsR t).length = n := by rw [rowsR_len, hs.len]
  have hrj := rjoin_r n t hs hn i j hi hj0
  have hrm := rmeet_r n t hs hn i j hi hj0
  generalize jnF t n i j = z1 at *
  generalize jnF (invT n t) n i j = z2 at *
  obtain ⟨x1, e1, h1, f1⟩ := fnd_one z1
  obtain ⟨x2, e2, h2, f2⟩ := fnd_one z2
  rw [h1] at hj
  rw [h2] at hm
  have hf1 := found_r x1 e1 z1
  have hf2 := found_r x2 e2 z2
  rw [f1] at hf1
  rw [f2] at hf2
  unfold relB at *
  have hod := order_r _ _ hv
  generalize latB t n = lb at *
  generalize rowsR t = R at *
  refine Reads.body (rs := [.tmp 6]) Tryz.func7 rfl Tryz.ntmps7 rfl (by simp) ?_
  generalize hQr : retQ _ _ _ = Qr
  -- block 5
  refine AW.sg [1,2,3] [3] trivial ?_
  refine AW.seq fun K1 hK1 => ?_
  refine AW.so 0 (fun ii => if ii = 0 then some (.reads false (.bool true)) else none) [1,2,3,13] [3] trivial ?_
  repeat with_reducible refine cj ?_ ?_
  all_goals try first | (exact ha) | omega | exact ent (by kernel_rfl)
  refine AW.cn ?_ ?_
  · intro hb
    exfalso; simp at hb
  · intro hb
    refine AW.skip ?_
    refine hK1 _ _ _ ?_; clear hK1
    refine AW.seq fun K2 hK2 => ?_
    refine AW.so 0 (fun ii => if ii = 1 then some (.reads false (.bool false)) else none) [1,2,3,15] [3] trivial ?_
    repeat with_reducible refine cj ?_ ?_
    all_goals try first | (exact hg) | omega | exact ent (by kernel_rfl)
    refine AW.cn ?_ ?_
    · intro hb
      exfalso; simp at hb
    · intro hb
      refine AW.skip ?_
      refine hK2 _ _ _ ?_; clear hK2
      refine AW.so 0 (fun ii => if ii = 3 then some (.reads false (.tup [.int .i64 x1, .int .i64 e1])) else none) [1,2,3,7,8] [3] trivial ?_
      repeat with_reducible refine cj ?_ ?_
      all_goals try first | (exact hj) | omega | exact ent (by kernel_rfl)
      refine AW.so 0 (fun ii => if ii = 3 then some (.reads false (.tup [.int .i64 x2, .int .i64 e2])) else none) [1,2,3,7,8,9,10] [3] trivial ?_
      repeat with_reducible refine cj ?_ ?_
      all_goals try first | (exact hm) | omega | exact ent (by kernel_rfl)
      refine AW.seq fun K3 hK3 => ?_
      refine AW.so 0 (fun ii => if ii = 1 then some (.reads false (.bool true)) else none) [1,2,3,7,8,9,10,32] [3] trivial ?_
      repeat with_reducible refine cj ?_ ?_
      all_goals try first | (exact hod) | omega | exact ent (by kernel_rfl)
      refine AW.cn ?_ ?_
      · intro hb
        exfalso; simp at hb
      · intro hb
        refine AW.skip ?_
        refine hK3 _ _ _ ?_; clear hK3
        refine AW.so 0 (fun ii => if ii = 1 then some (.reads false (.rsl 1 R)) else none) [1,2,3,7,8,9,10,11] [3] trivial ?_
        repeat with_reducible refine cj ?_ ?_
        all_goals try first | (exact htb) | omega | exact ent (by kernel_rfl)
        refine AW.seq fun K4 hK4 => ?_
        refine AW.so 0 (fun ii => if ii = 1 then some (.reads false (.bool lb)) else if ii = 3 then some (.reads false (.bool lb)) else none) [1,2,7,8,9,10,11,58] [] trivial ?_
        repeat with_reducible refine cj ?_ ?_
        all_goals try first | (first | exact hil | exact hrl) | omega | exact ent (by kernel_rfl)
        refine AW.cn ?_ ?_
        · intro hb
          exfalso; simp at hb
        · intro hb
          refine AW.skip ?_
          refine hK4 _ _ _ ?_; clear hK4
          refine AW.seq fun K5 hK5 => ?_
          refine AW.sg [1,2,7,8,9,10,11,76] [] (@hlr) ?_
          repeat with_reducible refine cj ?_ ?_
          all_goals try first | omega | (intros; (repeat' apply And.intro) <;> first | assumption | omega | decide) | (intro hgd; exact absurd hgd (by decide)) | rfl | (simp only [go_sem, reduceIte, reduceCtorEq, zA, zM, zE, zL, zD, zS, zP, zB, zI, zR, hlr]; done) | (intro _hgd; simp_all [go_sem]; done)
          refine AW.cn ?_ ?_
          · intro hb
            exfalso; omega
          · intro hb
            refine AW.skip ?_
            refine hK5 _ _ _ ?_; clear hK5
            refine AW.so 0 (fun ii => if ii = 5 then some (.reads false (.int .i64 z1)) else if ii = 6 then some (.reads false (.bool true)) else if ii = 13 then some (.reads false (.int .i64 z2)) else if ii = 14 then some (.reads false (.bool true)) else none) [6] [] trivial ?_
            repeat with_reducible refine cj ?_ ?_
            all_goals try first | (first | exact hrj | exact hf1 | (intro hh; exact ⟨hh, hrm⟩) | (intro hh; exact ⟨hh, hf2⟩) | exact fun _ => hrm | exact fun _ => hf2) | (intros; (repeat' apply And.intro) <;> first | assumption | (first | exact hrj | exact hf1 | (intro hh; exact ⟨hh, hrm⟩) | (intro hh; exact ⟨hh, hf2⟩) | exact fun _ => hrm | exact fun _ => hf2)) | omega | exact ent (by kernel_rfl) | (intro hgd; exact absurd hgd (by decide)) | rfl | exact gD | (intro _hgd; simp_all [go_sem]; done)
            -- ret 6
            rw [← hQr]
            refine AW.rt trivial ?_
            exact Wk.of_eq (by simp)
theorem rval_bad (rs : List USet) (hl : longR rs) (hb : BadP rs) : Reads Tryz.prog 58 false [relV rs] (.bool false) ∧ Reads Tryz.prog 49 false [relV rs] (.bool false) := by
  rcases hb with hv | ⟨t, ht, hs, hn, hp⟩
  · exact ⟨pvalid_e rs hl hv, rval_e rs hl hv⟩
  · have h1 := pvalid_g _ t hs hn
    have h2 := rval_g _ t hs hn
    rw [hp, relB_SB, ← ht] at h1 h2
    exact ⟨h1, h2⟩
theorem law_joins (rs : List USet) (hl : longR rs) (hok : ∀ x ∈ rs, okW x.W) (i j : Int) : Reads Tryz.prog 7 false [relV rs, .int .i64 i, .int .i64 j] (.bool true) := by
  cases hf : greatB rs
  · rcases rel_cases rs hok with ⟨t, ht, hs, hn, hp⟩ | hb
    · rw [show relV rs = relB t by rw [relB_SB, ← ht]]
      have hf' : greatB (t.map SB) = false := by rw [← ht]; exact hf
      by_cases ho : 0 ≤ i ∧ i < rs.length ∧ 0 ≤ j ∧ j < rs.length
      · have := joins_g _ t hs hn hp hf' i.toNat j.toNat (by omega) (by omega)
        rw [Int.toNat_of_nonneg ho.1, Int.toNat_of_nonneg ho.2.2.1] at this
        exact this
      · exact joins_o _ t hs hn hp hf' i j ho
    · exact joins_e rs hl i j hf (rval_bad rs hl hb).1 (rval_bad rs hl hb).2
  · exact joins_0 rs hl i j hf
end Go.Proofs.B

/- The shapes of arguments. -/
namespace Go.AM
theorem fit_int {P : Program} {t : TypeId} {k : IntKind} (hu : P.underlying t = some (.int k)) {f : Nat} {x : List AV} (h : Fit P f t x) : ∃ n, x = [.int k n] ∧ k.min ≤ n ∧ n ≤ k.max := by
  cases f with
  | zero => exact h.elim
  | succ f => unfold Fit at h; rw [hu] at h; exact h
theorem fit_slice {P : Program} {t e : TypeId} {m : Nat} (hu : P.underlying t = some (.slice e)) (hm : P.cellsOf e = m) (h0 : m ≠ 0) {f : Nat} {x : List AV} (h : Fit P f t x) : ∃ es f', x = [.rsl m es] ∧ es.length ≤ maxLen ∧ ∀ y ∈ es, Fit P f' e y := by
  cases f with
  | zero => exact h.elim
  | succ f =>
    unfold Fit at h; rw [hu] at h
    rcases h with h | ⟨es, h1, h2, h3⟩
    · exact absurd (hm ▸ h) h0
    · rw [hm] at h1; exact ⟨es, f, h1, h2, fun y hy => (h3 y hy).2⟩
theorem fit_struct {P : Program} {t : TypeId} {fs : Array Field} (hu : P.underlying t = some (.struct fs)) {f : Nat} {x : List AV} (h : Fit P f t x) : ∃ f' parts, x = List.flatten parts ∧ F2 (fun (fl : Field) p => Fit P f' fl.type p) fs.toList parts := by
  cases f with
  | zero => exact h.elim
  | succ f =>
    unfold Fit at h; rw [hu] at h
    obtain ⟨parts, h1, h2⟩ := h
    exact ⟨f, parts, h1, forall2_imp (fun _ _ h => h.2) h2⟩
theorem F2.two {α β : Type} {R : α → β → Prop} {a b : α} {l : List β} (h : F2 R [a, b] l) : ∃ x y, l = [x, y] ∧ R a x ∧ R b y := by
  cases h with | cons h1 t => cases t with | cons h2 t => cases t with | nil => exact ⟨_, _, rfl, h1, h2⟩
theorem F2.three {α β : Type} {R : α → β → Prop} {a b c : α} {l : List β} (h : F2 R [a, b, c] l) : ∃ x y z, l = [x, y, z] ∧ R a x ∧ R b y ∧ R c z := by
  cases h with | cons h1 t => cases t with | cons h2 t => cases t with | cons h3 t => cases t with | nil => exact ⟨_, _, _, rfl, h1, h2, h3⟩
theorem exists_mapP {α β : Type} {f : α → β} {p : α → Prop} : ∀ {l : List β}, (∀ x ∈ l, ∃ a, x = f a ∧ p a) → ∃ m : List α, l = m.map f ∧ ∀ a ∈ m, p a
  | [], _ => ⟨[], rfl, fun _ h => by cases h⟩
  | x :: l, h => by
    obtain ⟨a, rfl, ha⟩ := h x (List.mem_cons_self ..)
    obtain ⟨m, rfl, hm⟩ := exists_mapP fun y hy => h y (List.mem_cons_of_mem _ hy)
    exact ⟨a :: m, rfl, fun b hb => by rcases List.mem_cons.1 hb with rfl | hb; exact ha; exact hm b hb⟩
theorem okW_of {W : List Int} (h : ∀ w ∈ W, 0 ≤ w ∧ w ≤ 18446744073709551615) : okW W := fun i => by
  by_cases hi : i < W.length
  · have := h _ (mem_getD hi 0); omega
  · rw [List.getD_eq_getElem?_getD, List.getElem?_eq_none (by omega)]; simp
end Go.AM

/- A laid table, as the machine's package variable. -/
namespace Go.AM
theorem rptr_of_laid {P : Program} {n : String} {g : Nat} {t e : TypeId} {k : IntKind} {L : List Int} {W : World} (hg : P.globalNamed n = some g) (ht : (P.globals[g]?).map (·.type) = some t) (hu : P.underlying t = some (.array L.length e))
    (hc : P.cellsOf e = 1) (hc2 : P.cellsOf t = L.length) (hu2 : P.underlying e = some (.int k)) (hL : L ≠ []) (h : laidMet P [(n, .agg (L.map fun i => .lit (.int k i)))] W) : RelP (immF W fun _ => False) W (.rptr (L.map (AV.int k))) (.pointer (some ⟨g, 0, none⟩)) := by
  obtain ⟨ps, ⟨g0, t0, cs0, f0, p0, q0, hg0, ht0, hv0, hd0, _, _⟩, _, _⟩ := h
  obtain rfl := Option.some.inj (hg.symm.trans hg0)
  obtain rfl := Option.some.inj (ht.symm.trans ht0)
  obtain ⟨xs, m, rfl, hx, hlen, hn, hel⟩ := DataW.trod_array hu hd0
  have hcell : ∀ j, j < L.length → W.cell? ⟨g, j, none⟩ = some (.int k (L.getD j 0)) := fun j hj => by
    have h0 := hel j hj
    rw [hc, Nat.mul_one] at h0
    have hjx : j < xs.length := by omega
    rw [List.getElem?_eq_getElem hjx] at h0
    obtain ⟨z, e1, e2, _⟩ := DataW.trod_int hu2 h0
    have hxs : xs.map (·.1) = L.map fun i => .lit (.int k i) := by
      simp only [Prod.mk.injEq, DataW.agg.injEq] at hx
      exact hx.1.symm
    have hzj : (xs.map (·.1))[j]? = (L.map fun i => (.lit (.int k i) : DataW Unit))[j]? := by rw [hxs]
    rw [List.getElem?_map, List.getElem?_map, List.getElem?_eq_getElem hjx, List.getElem?_eq_getElem hj, e2] at hzj
    simp only [Option.map_some, Option.some.injEq, DataW.lit.injEq, Lit.int.injEq] at hzj
    have hz : z = L.getD j 0 := by rw [hzj.2]; simp [List.getD_eq_getElem?_getD, hj]
    have hcs : cs0[j]? = some (.int k z) := by
      have hl : cs0.toList.length = L.length := by rw [hlen, hc2]
      have hd : cs0.toList.drop j = cs0.toList[j]'(by omega) :: cs0.toList.drop (j + 1) := List.drop_eq_getElem_cons (by omega)
      rw [hd] at e1
      simp only [List.take_succ_cons, List.take_zero, List.cons.injEq, and_true] at e1
      rw [← Array.getElem?_toList, List.getElem?_eq_getElem (by omega), e1]
    rw [World.var?_cell hg hv0 j, hcs, hz]
  have hlt : g < W.heap.size := by
    cases L with
    | nil => exact absurd rfl hL
    | cons a l =>
      have := hcell 0 (by simp)
      unfold World.cell? at this
      cases hh : W.heap[g]? with
      | none => simp [hh] at this
      | some o => exact heap_lt hh
  refine .rptr _ g 0 (fun j => .int k (L.getD j 0)) ⟨hlt, fun h => h⟩ (fun j hj => ?_) (fun j hj => ?_)
  · rw [List.length_map] at hj
    rw [Nat.zero_add]
    exact hcell j hj
  · rw [List.length_map] at hj
    have e : (L.map (AV.int k)).getD j .any = .int k (L.getD j 0) := by simp [List.getD_eq_getElem?_getD, hj]
    rw [e]
    exact .int _ _
end Go.AM

/- The shapes of the birkhoff laws' arguments. -/
namespace Go.AM
open Go.Proofs
theorem fit_words {f : Nat} {x : List AV} (h : Fit Tryz.prog f 39 x) : ∃ W : List Int, x = [.rsl 1 (words W)] ∧ W.length ≤ 9223372036854775807 ∧ okW W := by
  obtain ⟨es, f2, rfl, h5, h6⟩ := fit_slice (m := 1) Tryz.underlying39 (by kernel_rfl) (by decide) h
  obtain ⟨ws, rfl, hw⟩ := exists_mapP (f := fun x : Int => [AV.int .u64 x]) (p := fun w => 0 ≤ w ∧ w ≤ 18446744073709551615) fun y hy => by
    obtain ⟨n, e, h1, h2⟩ := fit_int Tryz.underlying45 (h6 y hy)
    exact ⟨n, e, by simpa [IntKind.min, IntKind.signed] using h1, by simpa [IntKind.max, IntKind.signed, IntKind.bits] using h2⟩
  exact ⟨ws, rfl, by simpa [maxLen] using h5, okW_of hw⟩
theorem fit_set {f : Nat} {x : List AV} (h : Fit Tryz.prog f 41 x) : ∃ y : USet, x = rowV y ∧ y.W.length ≤ 9223372036854775807 ∧ okW y.W := by
  obtain ⟨f', parts, rfl, h2⟩ := fit_struct Tryz.underlying41 h
  obtain ⟨a, b, rfl, h3, h4⟩ := F2.two h2
  obtain ⟨i, rfl, _⟩ := fit_int Tryz.underlying3 h3
  obtain ⟨W, rfl, h5, h6⟩ := fit_words h4
  exact ⟨⟨i, W⟩, rfl, h5, h6⟩
theorem F2.one {α β : Type} {R : α → β → Prop} {a : α} {l : List β} (h : F2 R [a] l) : ∃ x, l = [x] ∧ R a x := by
  cases h with | cons h1 t => cases t with | nil => exact ⟨_, rfl, h1⟩
theorem fit_rel {f : Nat} {x : List AV} (h : Fit Tryz.prog f 24 x) : ∃ rs : List USet, x = [.rsl 2 (rs.map rowV)] ∧ (rs.length ≤ 9223372036854775807 ∧ ∀ y ∈ rs, y.W.length ≤ 9223372036854775807) ∧ ∀ y ∈ rs, okW y.W := by
  obtain ⟨f', parts, rfl, h2⟩ := fit_struct Tryz.underlying24 h
  obtain ⟨a, rfl, h3⟩ := F2.one h2
  obtain ⟨es, f2, rfl, h5, h6⟩ := fit_slice (m := 2) Tryz.underlying22 (by kernel_rfl) (by decide) h3
  obtain ⟨rs, rfl, hr⟩ := exists_mapP (f := rowV) (p := fun y => y.W.length ≤ 9223372036854775807 ∧ okW y.W) fun y hy => fit_set (h6 y hy)
  exact ⟨rs, rfl, ⟨by simpa [maxLen] using h5, fun y hy => (hr y hy).1⟩, fun y hy => (hr y hy).2⟩
theorem laidMet_tail {P : Program} {W : World} {x : String × DataW Unit} {l : List (String × DataW Unit)} (h : laidMet P (x :: l) W) : laidMet P l W := by
  obtain ⟨ps, ⟨g, t, cs, f, p, q, hg, ht, hv, hd, hr, rfl⟩, hn, hc⟩ := h
  exact ⟨q, hr, (List.nodup_append.1 hn).2.1, fun b off hm => hc b off (List.mem_append.2 (.inr hm))⟩
theorem laidMet_head {P : Program} {W : World} {x : String × DataW Unit} {l : List (String × DataW Unit)} (h : laidMet P (x :: l) W) : laidMet P [x] W := by
  obtain ⟨ps, ⟨g, t, cs, f, p, q, hg, ht, hv, hd, hr, rfl⟩, hn, hc⟩ := h
  refine ⟨MemPlace.row ⟨g, 0, none⟩ cs.size ++ p ++ [], ⟨g, t, cs, f, p, [], hg, ht, hv, hd, rfl, rfl⟩, ?_, fun b off hm => ?_⟩
  · rw [List.append_nil]; exact (List.nodup_append.1 hn).1
  · rw [List.append_nil] at hm; exact hc b off (List.mem_append.2 (.inl hm))
theorem pgl {W : World} (h : laidMetH Tryz.prog [("math/bits.deBruijn32tab", YtppocnbagombeaaGreatDoor.Rows.laid_math_bits_deBruijn32tab), ("math/bits.deBruijn64tab", YtppocnbagombeaaGreatDoor.Rows.laid_math_bits_deBruijn64tab), ("internal/strconv.uint64pow10", YtppocnbagombeaaGreatDoor.Rows.laid_internal_strconv_uint64pow10)] W) : GL (immF W fun _ => False) W := fun g cs e => by
  rw [MakeChecks.laidMetH_plain _ _ _ (by rfl)] at h
  have h2 := laidMet_head (laidMet_tail h)
  cases g with
  | zero =>
    rw [globA_aux] at e
    obtain rfl := Option.some.inj e
    exact rptr_of_laid (L := tzTab) (by kernel_rfl : Tryz.prog.globalNamed "math/bits.deBruijn64tab" = some 0) (by kernel_rfl : (Tryz.prog.globals[0]?).map (·.type) = some 136) (e := 5) Tryz.underlying136 (by kernel_rfl) (by kernel_rfl) Tryz.underlying5 (by decide) h2
  | succ g => cases e
theorem pmet (os : Os) (args : Array Value) : laidMetH Tryz.prog [("math/bits.deBruijn32tab", YtppocnbagombeaaGreatDoor.Rows.laid_math_bits_deBruijn32tab), ("math/bits.deBruijn64tab", YtppocnbagombeaaGreatDoor.Rows.laid_math_bits_deBruijn64tab), ("internal/strconv.uint64pow10", YtppocnbagombeaaGreatDoor.Rows.laid_internal_strconv_uint64pow10)] ((World.doorLaid Tryz.prog 400 os).forCall (fun _ _ => 0) ⟨#[], args, []⟩).memory :=
  laidMetH_of_parts3 (fuel := 8) (laidMet_of_run' 8 (by kernel_rfl) (by kernel_rfl)) (by kernel_rfl) (by kernel_rfl)
end Go.AM

