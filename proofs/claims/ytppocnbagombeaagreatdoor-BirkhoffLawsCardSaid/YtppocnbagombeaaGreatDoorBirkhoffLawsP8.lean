/- Lemmas and contracts, part 8: an abstract machine over the model, and the functions that the statement reaches. -/
import Derived.Test.YtppocnbagombeaaGreatDoorBirkhoffLawsP7
import Derived.MakeChecks
import Derived.LaidMore
import Derived.Test.YtppocnbagombeaaGreatDoorRows
set_option linter.unusedVariables false
set_option linter.unusedSimpArgs false
open Nat renaming reduceAdd → zA, reduceMul → zM, reduceEqDiff → zE, reduceLT → zL, reduceLeDiff → zD, reduceSub → zS, reducePow → zP, reduceBEq → zB
open Int renaming reduceToNat → zI
open List renaming reduceReplicate → zR
namespace Go.Proofs.B
open Go.AM Go
set_option maxRecDepth 100000
set_option maxHeartbeats 4000000
theorem formed_a (N n : Int) (W : List Int) (hl : W.length ≤ 9223372036854775807) (hn0 : 0 ≤ n) (hn1 : n ≤ 512) (hm : n.tmod 64 = 0) : Reads Tryz.prog 57 false [.agg [.int .i64 N, .rsl 1 (words W)], .int .i64 n] (.bool (decide (N = n) && validS n W)) := by
  have hwe := wordsN_ref n
  have hwn := wordsN_rng (n := n) hn0
  have hdiv : 0 ≤ n.tdiv 64 ∧ n.tdiv 64 ≤ 512 ∧ n.tdiv 64 = wordsN n := by rw [← hwe]; rw [Int.tmod_eq_emod_of_nonneg hn0] at hm; rw [Int.tdiv_eq_ediv_of_nonneg (by omega), Int.tdiv_eq_ediv_of_nonneg (by omega)]; omega
  refine Reads.body (rs := [.tmp 4]) Tryz.func57 rfl Tryz.ntmps57 rfl (by simp) ?_
  generalize hQr : retQ _ _ _ = Qr
  -- block 1
  refine AW.sg [1,2] [2] trivial ?_
  refine AW.seq fun K1 hK1 => ?_
  refine AW.sg [1,2,17] [2] (@hwe) ?_
  repeat with_reducible refine cj ?_ ?_
  all_goals try first | omega | (intros; (repeat' apply And.intro) <;> first | assumption | omega | decide) | (intro hgd; exact absurd hgd (by decide)) | rfl | (simp only [go_sem, reduceIte, reduceCtorEq, zA, zM, zE, zL, zD, zS, zP, zB, zI, zR, hwe]; done) | (intro _hgd; simp_all [go_sem]; done)
  refine AW.cn ?_ ?_
  · intro hb
    refine AW.sg [4] [] trivial ?_
    -- ret 1
    rw [← hQr]
    refine AW.rt trivial ?_
    exact Wk.of_eq (by congr 1; symm; simp [validS]; intros; omega)
  · intro hb
    have hlen : (W.length : Int) = wordsN n := by omega
    have hNn : N = n := by omega
    have hgw : (words W).getD (n.tdiv 64).toNat [] = [] := by rw [List.getD_eq_getElem?_getD, List.getElem?_eq_none (by rw [words_len]; omega)]; rfl
    refine AW.skip ?_
    refine hK1 _ _ _ ?_; clear hK1
    refine AW.sg [4] [] (e2 @hgw @hm) ?_
    repeat with_reducible refine cj ?_ ?_
    all_goals try first | ((intro hh; (repeat' apply And.intro) <;> first | exact hh | omega | (exfalso; simp at hh; done))) | (intros; (repeat' apply And.intro) <;> first | assumption | ((intro hh; (repeat' apply And.intro) <;> first | exact hh | omega | (exfalso; simp at hh; done)))) | omega | (intro hgd; exact absurd hgd (by decide)) | rfl | (simp only [go_sem, reduceIte, reduceCtorEq, zA, zM, zE, zL, zD, zS, zP, zB, zI, zR, hgw, hm]; done) | (intro _hgd; simp_all [go_sem]; done)
    -- ret 2
    rw [← hQr]
    refine AW.rt trivial ?_
    exact Wk.of_eq (by simp [validS, topB, hm, hNn, hlen, hn0, hn1])
theorem formed_b (N n : Int) (W : List Int) (hl : W.length ≤ 9223372036854775807) (hn0 : 0 ≤ n) (hn1 : n ≤ 512) (hm : n.tmod 64 ≠ 0) : Reads Tryz.prog 57 false [.agg [.int .i64 N, .rsl 1 (words W)], .int .i64 n] (.bool (decide (N = n) && validS n W)) := by
  have hwe := wordsN_ref n
  have hwn := wordsN_rng (n := n) hn0
  have hmod : 0 ≤ n.tmod 64 ∧ n.tmod 64 < 64 := by rw [Int.tmod_eq_emod_of_nonneg (by omega)]; omega
  have hnz : n ≠ 0 := by rintro rfl; exact hm rfl
  have hwr : IntKind.u64.wrap (n.tmod 64) = n.tmod 64 := by simp [IntKind.wrap, IntKind.signed, IntKind.bits]; omega
  refine Reads.body (rs := [.tmp 4]) Tryz.func57 rfl Tryz.ntmps57 rfl (by simp) ?_
  generalize hQr : retQ _ _ _ = Qr
  -- block 2
  refine AW.sg [1,2] [2] trivial ?_
  refine AW.seq fun K1 hK1 => ?_
  refine AW.sg [1,2,17] [2] (@hwe) ?_
  repeat with_reducible refine cj ?_ ?_
  all_goals try first | omega | (intros; (repeat' apply And.intro) <;> first | assumption | omega | decide) | (intro hgd; exact absurd hgd (by decide)) | rfl | (simp only [go_sem, reduceIte, reduceCtorEq, zA, zM, zE, zL, zD, zS, zP, zB, zI, zR, hwe]; done) | (intro _hgd; simp_all [go_sem]; done)
  refine AW.cn ?_ ?_
  · intro hb
    refine AW.sg [4] [] trivial ?_
    -- ret 1
    rw [← hQr]
    refine AW.rt trivial ?_
    exact Wk.of_eq (by congr 1; symm; simp [validS]; intros; omega)
  · intro hb
    have hlen : (W.length : Int) = wordsN n := by omega
    have hNn : N = n := by omega
    obtain ⟨hti, htl⟩ := top_ix hn0 hlen hm
    have hdiv : 0 ≤ n.tdiv 64 ∧ n.tdiv 64 ≤ 512 := by rw [Int.tdiv_eq_ediv_of_nonneg (by omega)]; omega
    have hgw : (words W).getD (n.tdiv 64).toNat [] = [.int .u64 (W.getD (W.length - 1) 0)] := by rw [← hti]; exact words_getD (by omega)
    refine AW.skip ?_
    refine hK1 _ _ _ ?_; clear hK1
    refine AW.sg [4] [] (e2 @hgw @hwr) ?_
    repeat with_reducible refine cj ?_ ?_
    all_goals try first | ((intro hh; (repeat' apply And.intro) <;> first | exact hh | omega)) | (intros; (repeat' apply And.intro) <;> first | assumption | ((intro hh; (repeat' apply And.intro) <;> first | exact hh | omega))) | omega | (intro hgd; exact absurd hgd (by decide)) | rfl | (simp only [go_sem, reduceIte, reduceCtorEq, zA, zM, zE, zL, zD, zS, zP, zB, zI, zR, hgw, hwr]; done) | (intro _hgd; simp_all [go_sem]; done)
    -- ret 2
    rw [← hQr]
    refine AW.rt trivial ?_
    exact Wk.of_eq (by simp [validS, topB, hm, hNn, hlen, hn0, hn1])
theorem formed_r (N n : Int) (W : List Int) (hl : W.length ≤ 9223372036854775807) (hn0 : 0 ≤ n) (hn1 : n ≤ 512) : Reads Tryz.prog 57 false [.agg [.int .i64 N, .rsl 1 (words W)], .int .i64 n] (.bool (decide (N = n) && validS n W)) := by
  by_cases hm : n.tmod 64 = 0
  · exact formed_a N n W hl hn0 hn1 hm
  · exact formed_b N n W hl hn0 hn1 hm
theorem rrvalid_r (rs : List USet) (hl : rs.length ≤ 9223372036854775807) (hx : ∀ x ∈ rs, x.W.length ≤ 9223372036854775807) : Reads Tryz.prog 16 false [relV rs] (.bool (validR rs)) := by
  have hf := fun x hxm h => formed_r x.N (rs.length : Nat) x.W (hx x hxm) (by omega) h
  have hvg := validR_good rs
  unfold relV
  refine Reads.body (rs := [.tmp 2]) Tryz.func16 rfl Tryz.ntmps16 rfl (by simp) ?_
  generalize hQr : retQ _ _ _ = Qr
  -- block 3
  refine AW.sg [1] [1] trivial ?_
  refine AW.sg [1,3] [1] trivial ?_
  refine AW.seq fun K1 hK1 => ?_
  refine AW.sg [1,3,9] [1] trivial ?_
  refine AW.cn ?_ ?_
  · intro hb
    refine AW.sg [2] [] trivial ?_
    -- ret 1
    rw [← hQr]
    refine AW.rt trivial ?_
    have hn : ¬ rs.length ≤ 512 := by omega
    exact Wk.of_eq (by rw [hvg]; simp [hn])
  · intro hb
    have h512 : rs.length ≤ 512 := by omega
    refine AW.skip ?_
    refine hK1 _ _ _ ?_; clear hK1
    refine AW.seq fun K2 hK2 => ?_
    refine AW.sg [1,3,4] [1] trivial ?_
    refine AW.block ?_
    refine AW.loopE (fun mm ee ss kk => ∃ (j g v : Nat), rs.length - j = mm ∧ ee = [(1, .ptr ⟨1, g, none⟩ 0 0), (3, .int .i64 rs.length), (4, .int .i64 (j : Nat))] ∧ ss = [(1, some ⟨g, v, 1, [[.rsl 2 (rs.map rowV)]]⟩)] ∧ (j ≤ rs.length ∧ (rs.take j).all (goodRow rs.length) = true)) ?_ ?_
    -- init 1
    · exact ⟨_, 0, _, _, rfl, eD, eD, (⟨Nat.zero_le _, rfl⟩)⟩
    rintro mm ee ss kk ⟨j, g, v, rfl, rfl, rfl, hI⟩
    generalize hQl1 : thenQ _ _ = Ql1
    obtain ⟨hj, hall⟩ := hI
    refine AW.seq fun K3 hK3 => ?_
    refine AW.sg [1,3,4,12] [1] trivial ?_
    refine AW.cn ?_ ?_
    · intro hb
      obtain ⟨x, hx2⟩ := getI (l := rs) (j := j) (by omega)
      have hgx := getV (f := rowV) hx2
      have hats := all_take_succ (p := goodRow rs.length) hx2
      have hfx := hf x (List.mem_of_getElem? hx2) (by omega)
      refine AW.skip ?_
      refine hK3 _ _ _ ?_; clear hK3
      refine AW.seq fun K4 hK4 => ?_
      refine AW.block ?_
      refine AW.so 0 (fun ii => if ii = 6 then some (.reads false (.bool (goodRow rs.length x))) else none) [1,3,4,22] [1] (e2 @hgx @rowV.eq_1) ?_
      repeat with_reducible refine cj ?_ ?_
      all_goals try first | (exact hfx) | omega | exact ent (by kernel_rfl)
      refine AW.cn ?_ ?_
      · intro hb
        refine AW.sg [2] [] trivial ?_
        -- ret 2
        rw [← hQl1, ← hQr]
        refine AW.rt trivial ?_
        exact Wk.of_eq (by rw [hvg, all_false_of hx2 hb]; simp)
      · intro hb
        refine AW.skip ?_
        refine hK4 _ _ _ ?_; clear hK4
        refine AW.rg [1,3,4] [1] trivial ?_
        -- again 1
        rw [← hQl1]; change Exists _
        exact ⟨_, eO, j + 1, _, _, rfl, eD, eD, (⟨by omega, by rw [hats, hall, hb]; rfl⟩)⟩
    · intro hb
      -- exit 0
      refine AW.kx [] [] ?_
      rw [← hQl1]
      refine hK2 _ _ _ ?_; clear hK2
      refine AW.sg [2] [] trivial ?_
      -- ret 3
      rw [← hQr]
      refine AW.rt trivial ?_
      exact Wk.of_eq (by rw [List.take_of_length_le (by omega)] at hall; rw [hvg, hall]; simp [h512])
theorem table_r (n : Nat) (t : List (List Bool)) (hs : Sq n t) (hn : n ≤ 512) : Reads Tryz.prog 22 true [relB t] (.rsl 1 (rowsR t)) := by
  have hlen := hs.len
  have hrl := tabR_len t
  have hwn := wordsN_rng (n := (n : Int)) (by omega)
  unfold relB
  refine Reads.bodyF (rs := [.tmp 2]) Tryz.func22 rfl Tryz.ntmps22 rfl (by simp) ?_
  generalize hQr : retQ _ _ _ = Qr
  -- block 4
  refine AW.sg [1] [1] (e2 @hrl @hlen) ?_
  refine AW.sg [1,3] [1] (e2 @hrl @hlen) ?_
  refine AW.sg [1,3,4] [1] (e2 @hrl @hlen) ?_
  refine AW.seq fun K1 hK1 => ?_
  refine AW.sg [1,3,4,5] [1] (e2 @hrl @hlen) ?_
  refine AW.block ?_
  refine AW.nilOwn 4 200 1 (by simp only [go_sem, reduceIte, zE]) ?_
  refine AW.keep [1, 3, 4, 5] [1, 200] ?_
  simp only [go_sem, reduceIte, zE]
  refine AW.loopE (fun mm ee ss kk => ∃ (i g1 v1 g v : Nat), n - i = mm ∧ ee = [(1, .ptr ⟨1, g1, none⟩ 0 0), (3, .int .i64 n), (4, .sl ⟨200, g, none⟩ 0 i none), (5, .int .i64 (i : Nat))] ∧ ss = [(1, some ⟨g1, v1, 1, [[.rsl 2 (tabR t)]]⟩), (200, some ⟨g, v, 1, rowsO (t.take i)⟩)] ∧ (i ≤ n)) ?_ ?_
  -- init 1
  · exact ⟨_, 0, _, _, _, _, rfl, eD, eD, eT⟩
  rintro mm ee ss kk ⟨i, g1, v1, g, v, rfl, rfl, rfl, hI⟩
  generalize hQl1 : thenQ _ _ = Ql1
  refine AW.seq fun K2 hK2 => ?_
  refine AW.sg [1,3,4,5,13] [1,200] (e2 @hrl @hlen) ?_
  refine AW.cn ?_ ?_
  · intro hb
    have hgr := tabR_get (t := t) (i := i) (by omega)
    have hrw := hs.rowLen (i := i) (by omega)
    have hti := take_succT (t := t) (i := i) (by omega)
    have htl : (rowsO (t.take i)).length = i := by rw [rowsO_len]; simp; omega
    have htk : (rowsO (t.take i)).take i = rowsO (t.take i) := List.take_of_length_le (by omega)
    generalize hb' : rowT t i = b at *
    have hap := rowsO_app (t.take i) b
    have hgl := fun x => app_get (rowsO (t.take i)) x htl
    have hsl := fun x y => app_set (rowsO (t.take i)) x y htl
    have hll := fun x => app_len (rowsO (t.take i)) x htl
    have hwl := setW_len' b
    rw [hrw] at hwl
    refine AW.skip ?_
    refine hK2 _ _ _ ?_; clear hK2
    refine AW.seq fun K3 hK3 => ?_
    refine AW.block ?_
    refine AW.sg [1,3,4,5,6] [1,17,200] (e2 @hrl @hlen) ?_
    refine AW.seq fun K4 hK4 => ?_
    refine AW.sg [1,3,4,5,6,7] [1,17,200] (e2 @hrl @hlen) ?_
    refine AW.block ?_
    refine AW.loopE (fun mm ee ss kk => ∃ (j g1 v1 g17 v17 g v : Nat), n - j = mm ∧ ee = [(1, .ptr ⟨1, g1, none⟩ 0 0), (3, .int .i64 n), (4, .sl ⟨200, g, none⟩ 0 i none), (5, .int .i64 (i : Nat)), (6, .sl ⟨17, g17, none⟩ 0 n none), (7, .int .i64 (j : Nat))] ∧ ss = [(1, some ⟨g1, v1, 1, [[.rsl 2 (tabR t)]]⟩), (17, some ⟨g17, v17, 1, bools (fillB b n j)⟩), (200, some ⟨g, v, 1, rowsO (t.take i)⟩)] ∧ (j ≤ n)) ?_ ?_
    -- init 2
    · refine ⟨_, 0, ?_, ?_, ?_, ?_, ?_, ?_, rfl, ?henv, ?hstore, ?hst⟩
      case henv =>
        repeat' (first | rfl | refine env_cons ?_ ?_ | refine st_cons ?_ ?_ ?_ ?_ | refine int_eq ?_ | refine bool_eq ?_ | refine rsl_eq ?_ | refine osl_eq ?_ | refine sl_eq ?_ ?_ ?_ | refine ptr_eq ?_ ?_ ?_ | refine agg_eq ?_ | refine es_cons ?_ ?_ | refine row_cons ?_ ?_)
        all_goals (first | (simp; done) | omega | (simp; omega))
      case hstore =>
        repeat' (first | rfl | refine env_cons ?_ ?_ | refine st_cons ?_ ?_ ?_ ?_ | refine int_eq ?_ | refine bool_eq ?_ | refine rsl_eq ?_ | refine osl_eq ?_ | refine sl_eq ?_ ?_ ?_ | refine ptr_eq ?_ ?_ ?_ | refine agg_eq ?_ | refine es_cons ?_ ?_ | refine row_cons ?_ ?_)
        all_goals (rw [fillB_zero]; simp [bools])
      case hst =>
        first | trivial | omega | (simp; done) | (simp; omega)
    rintro mm ee ss kk ⟨j, g1, v1, g17, v17, g, v, rfl, rfl, rfl, hI⟩
    generalize hQl2 : thenQ _ _ = Ql2
    refine AW.seq fun K5 hK5 => ?_
    refine AW.sg [1,3,4,5,6,7,20] [1,17,200] (e2 @hrl @hlen) ?_
    refine AW.cn ?_ ?_
    · intro hb
      have hd := div64_rng (i := (j : Int)) (n := n) (by omega) (by omega)
      have hgw := words_getD (l := setW b n) (i := ((j : Int).tdiv 64).toNat) (by omega)
      have hwr : IntKind.u64.wrap ((j : Int).tmod 64) = (j : Int).tmod 64 := by simp [IntKind.wrap, IntKind.signed, IntKind.bits]; omega
      have hhw := hasW_row (b := b) (j := j) (by omega)
      unfold hasW at hhw
      rw [hrw] at hhw
      have hfs := fillB_succ hrw (i := j) (by omega)
      have hfl := fillB_len hrw (i := j) (by omega)
      refine AW.skip ?_
      refine hK5 _ _ _ ?_; clear hK5
      refine AW.seq fun K6 hK6 => ?_
      refine AW.block ?_
      refine AW.rg [1,3,4,5,6,7] [1,17,200] (e5 @hrl @hlen @hgr @rowB.eq_1 (e5 @hrw @hgw @hwr @hhw @hfl)) ?_
      refine hK6 _ _ _ ?_; clear hK6
      refine AW.rg [1,3,4,5,6,7] [1,17,200] (e2 @hrl @hlen) ?_
      -- again 2
      rw [← hQl2]; change Exists _
      refine ⟨_, ?hm, j + 1, ?_, ?_, ?_, ?_, ?_, ?_, rfl, ?henv, ?hstore, ?hst⟩
      case henv =>
        repeat' (first | rfl | refine env_cons ?_ ?_ | refine st_cons ?_ ?_ ?_ ?_ | refine int_eq ?_ | refine bool_eq ?_ | refine rsl_eq ?_ | refine osl_eq ?_ | refine sl_eq ?_ ?_ ?_ | refine ptr_eq ?_ ?_ ?_ | refine agg_eq ?_ | refine es_cons ?_ ?_ | refine row_cons ?_ ?_)
        all_goals (first | (simp; done) | omega | (simp; omega))
      case hstore =>
        repeat' (first | rfl | refine env_cons ?_ ?_ | refine st_cons ?_ ?_ ?_ ?_ | refine int_eq ?_ | refine bool_eq ?_ | refine rsl_eq ?_ | refine osl_eq ?_ | refine sl_eq ?_ ?_ ?_ | refine ptr_eq ?_ ?_ ?_ | refine agg_eq ?_ | refine es_cons ?_ ?_ | refine row_cons ?_ ?_)
        all_goals (rw [← hfs])
      case hst =>
        first | trivial | omega | (simp; done) | (simp; omega)
      case hm => omega
    · intro hb
      have hj : j = n := by omega
      subst hj
      rw [fillB_all hrw]
      -- exit 2
      refine AW.exit ?_
      rw [← hQl2]
      refine hK4 _ _ _ ?_; clear hK4
      refine AW.regionK 0 (fun _ => none) [1, 3, 4, 5] [1, 17, 200] ?_
      simp only [go_sem, reduceIte, reduceCtorEq, zA, zM, zE, zL, zD, zS, zP, zB, zI, zR, hrl, hlen, htk, htl]
      repeat with_reducible refine cj ?_ ?_
      all_goals try first | omega | (simp [scP, scalar]; done) | exact scP_words _ | exact scP_ints _ | exact scP_bools _
      refine hK3 _ _ _ ?_; clear hK3
      refine AW.adoptK 200 i 0 17 ?_
      simp only [go_sem, reduceIte, zE, hgl, hsl, hll]
      repeat refine cj ?_ ?_
      any_goals first | exact noOsl_bools _ | decide | (rw [hrw]; done) | omega
      refine AW.keep [1, 3, 4, 5] [1, 200] ?_
      simp only [go_sem, reduceIte, zE, hap]
      refine AW.rg [1,3,4,5] [1,200] (e2 @hrl @hlen) ?_
      -- again 1
      rw [← hQl1]; change Exists _
      refine ⟨_, ?hm, i + 1, ?_, ?_, ?_, ?_, rfl, ?henv, ?hstore, ?hst⟩
      case henv =>
        repeat' (first | rfl | refine env_cons ?_ ?_ | refine st_cons ?_ ?_ ?_ ?_ | refine int_eq ?_ | refine bool_eq ?_ | refine rsl_eq ?_ | refine osl_eq ?_ | refine sl_eq ?_ ?_ ?_ | refine ptr_eq ?_ ?_ ?_ | refine agg_eq ?_ | refine es_cons ?_ ?_ | refine row_cons ?_ ?_)
        all_goals (first | (simp; done) | omega | (simp; omega))
      case hstore =>
        repeat' (first | rfl | refine env_cons ?_ ?_ | refine st_cons ?_ ?_ ?_ ?_ | refine int_eq ?_ | refine bool_eq ?_ | refine rsl_eq ?_ | refine osl_eq ?_ | refine sl_eq ?_ ?_ ?_ | refine ptr_eq ?_ ?_ ?_ | refine agg_eq ?_ | refine es_cons ?_ ?_ | refine row_cons ?_ ?_)
        all_goals (rw [hti])
      case hst =>
        first | trivial | omega | (simp; done) | (simp; omega)
      case hm => omega
  · intro hb
    -- exit 0
    refine AW.exit ?_
    rw [← hQl1]
    refine hK1 _ _ _ ?_; clear hK1
    refine AW.sg [2] [200] (e2 @hrl @hlen) ?_
    -- ret 1
    rw [← hQr]
    refine AW.rt (e2 @hrl @hlen) ?_
    have hi : i = n := by omega
    subst hi
    rw [List.take_of_length_le (by omega : t.length ≤ i), List.take_of_length_le (by rw [rowsO_len]; omega), vwcF_rowsO]
    exact Wk.refl _
theorem rval_e (rs : List USet) (hl : longR rs) (hv : validR rs = false) : Reads Tryz.prog 49 false [relV rs] (.bool false) := by
  have h := rrvalid_r rs hl.1 hl.2
  rw [hv] at h
  unfold relV at *
  refine Reads.body (rs := [.tmp 2]) Tryz.func49 rfl Tryz.ntmps49 rfl (by simp) ?_
  generalize hQr : retQ _ _ _ = Qr
  -- block 7
  refine AW.sg [1] [1] trivial ?_
  refine AW.seq fun K1 hK1 => ?_
  refine AW.so 0 (fun ii => if ii = 1 then some (.reads false (.bool false)) else none) [1,9] [1] trivial ?_
  repeat with_reducible refine cj ?_ ?_
  all_goals try first | (exact h) | omega | exact ent (by kernel_rfl)
  refine AW.cn ?_ ?_
  · intro hb
    refine AW.sg [2] [] trivial ?_
    -- ret 1
    rw [← hQr]
    refine AW.rt trivial ?_
    exact Wk.refl _
  · intro hb
    exfalso; simp at hb
theorem rval_g (n : Nat) (t : List (List Bool)) (hs : Sq n t) (hn : n ≤ 512) : Reads Tryz.prog 49 false [relB t] (.bool (poB n t)) := by
  have hlen := hs.len
  have hlm : (t.map SB).length = n := by simp [hlen]
  have hW : ∀ x ∈ t.map SB, x.W.length ≤ 9223372036854775807 := fun x hx => by
    obtain ⟨b, hb, rfl⟩ := List.mem_map.1 hx
    have := setB_len (b := b) (by rw [hs.row b hb]; exact hn)
    simp only [SB]; omega
  have h := rrvalid_r (t.map SB) (by omega) hW
  rw [valid_tab hs hn, ← relB_SB] at h
  have ht := (table_r n t hs hn).old
  have hrl := rowsR_len t
  have hpo := poB_iff hs
  unfold relB at *
  refine Reads.body (rs := [.tmp 2]) Tryz.func49 rfl Tryz.ntmps49 rfl (by simp) ?_
  generalize hQr : retQ _ _ _ = Qr
  -- block 8
  refine AW.sg [1] [1] (e3 @hrl @hlen @bools_len) ?_
  refine AW.seq fun K1 hK1 => ?_
  refine AW.so 0 (fun ii => if ii = 1 then some (.reads false (.bool true)) else none) [1,9] [1] (e3 @hrl @hlen @bools_len) ?_
  repeat with_reducible refine cj ?_ ?_
  all_goals try first | (exact h) | omega | exact ent (by kernel_rfl)
  refine AW.cn ?_ ?_
  · intro hb
    exfalso; simp at hb
  · intro hb
    refine AW.skip ?_
    refine hK1 _ _ _ ?_; clear hK1
    refine AW.so 0 (fun ii => if ii = 1 then some (.reads false (.rsl 1 (rowsR t))) else none) [3] [] (e3 @hrl @hlen @bools_len) ?_
    repeat with_reducible refine cj ?_ ?_
    all_goals try first | (exact ht) | omega | exact ent (by kernel_rfl)
    refine AW.seq fun K2 hK2 => ?_
    refine AW.sg [3,4] [] (e3 @hrl @hlen @bools_len) ?_
    refine AW.block ?_
    refine AW.loopE (fun mm ee ss kk => ∃ (i : Nat), n - i = mm ∧ ee = [(3, .rsl 1 (rowsR t)), (4, .int .i64 (i : Nat))] ∧ ss = [] ∧ (i ≤ n ∧ ∀ a, a < i → atT t a a = false ∧ ∀ b c, b < n → c < n → atT t a b = true → atT t b c = true → atT t a c = true)) ?_ ?_
    -- init 1
    · exact ⟨_, 0, rfl, eD, eD, (⟨by omega, fun a ha => by omega⟩)⟩
    rintro mm ee ss kk ⟨i, rfl, rfl, rfl, hI⟩
    generalize hQl1 : thenQ _ _ = Ql1
    obtain ⟨hi, hal⟩ := hI
    refine AW.seq fun K3 hK3 => ?_
    refine AW.sg [3,4,15] [] (e3 @hrl @hlen @bools_len) ?_
    refine AW.cn ?_ ?_
    · intro hb
      have hgi := rowsR_get (t := t) (i := i) (by omega)
      have hri := hs.rowLen (i := i) (by omega)
      have hgii := bools_getD (l := rowT t i) (i := i) (by omega)
      have hat : atT t i i = (rowT t i).getD i false := rfl
      rw [← hat] at hgii
      refine AW.skip ?_
      refine hK3 _ _ _ ?_; clear hK3
      refine AW.seq fun K4 hK4 => ?_
      refine AW.block ?_
      refine AW.seq fun K5 hK5 => ?_
      refine AW.sg [3,4,24] [] (e2 @hrl (e5 @hlen @bools_len @hgi @hri @hgii)) ?_
      refine AW.cn ?_ ?_
      · intro hb
        refine AW.sg [2] [] (e3 @hrl @hlen @bools_len) ?_
        -- ret 2
        rw [← hQl1, ← hQr]
        refine AW.rt (e3 @hrl @hlen @bools_len) ?_
        have hf : poB n t = false := by
          cases e : poB n t with
          | false => rfl
          | true => have := (hpo.1 e).irr i (by omega); rw [hb] at this; cases this
        exact Wk.of_eq (by rw [hf])
      · intro hb
        have hir : atT t i i = false := by simpa using hb
        clear hb
        refine AW.skip ?_
        refine hK5 _ _ _ ?_; clear hK5
        refine AW.sg [3,4,5] [] (e3 @hrl @hlen @bools_len) ?_
        refine AW.block ?_
        refine AW.loopE (fun mm ee ss kk => ∃ (j : Nat), n - j = mm ∧ ee = [(3, .rsl 1 (rowsR t)), (4, .int .i64 (i : Nat)), (5, .int .i64 (j : Nat))] ∧ ss = [] ∧ (j ≤ n ∧ ∀ b c, b < j → c < n → atT t i b = true → atT t b c = true → atT t i c = true)) ?_ ?_
        -- init 2
        · exact ⟨_, 0, rfl, eD, eD, (⟨by omega, fun b c hb => by omega⟩)⟩
        rintro mm ee ss kk ⟨j, rfl, rfl, rfl, hI⟩
        generalize hQl2 : thenQ _ _ = Ql2
        obtain ⟨hj, hal2⟩ := hI
        refine AW.seq fun K6 hK6 => ?_
        refine AW.sg [3,4,5,28] [] (e3 @hrl @hlen @bools_len) ?_
        refine AW.cn ?_ ?_
        · intro hb
          have hgj := rowsR_get (t := t) (i := j) (by omega)
          have hrj := hs.rowLen (i := j) (by omega)
          have hgij := bools_getD (l := rowT t i) (i := j) (by omega)
          have hatij : atT t i j = (rowT t i).getD j false := rfl
          rw [← hatij] at hgij
          refine AW.skip ?_
          refine hK6 _ _ _ ?_; clear hK6
          refine AW.seq fun K7 hK7 => ?_
          refine AW.block ?_
          refine AW.sg [3,4,5,6] [] (e3 @hrl @hlen @bools_len) ?_
          refine AW.block ?_
          refine AW.loopE (fun mm ee ss kk => ∃ (k : Nat), n - k = mm ∧ ee = [(3, .rsl 1 (rowsR t)), (4, .int .i64 (i : Nat)), (5, .int .i64 (j : Nat)), (6, .int .i64 (k : Nat))] ∧ ss = [] ∧ (k ≤ n ∧ ∀ c, c < k → atT t i j = true → atT t j c = true → atT t i c = true)) ?_ ?_
          -- init 3
          · exact ⟨_, 0, rfl, eD, eD, (⟨by omega, fun c hc => by omega⟩)⟩
          rintro mm ee ss kk ⟨k, rfl, rfl, rfl, hI⟩
          generalize hQl3 : thenQ _ _ = Ql3
          obtain ⟨hk, hal3⟩ := hI
          refine AW.seq fun K8 hK8 => ?_
          refine AW.sg [3,4,5,6,34] [] (e3 @hrl @hlen @bools_len) ?_
          refine AW.cn ?_ ?_
          · intro hb
            have hgjk := bools_getD (l := rowT t j) (i := k) (by omega)
            have hgik := bools_getD (l := rowT t i) (i := k) (by omega)
            have hatjk : atT t j k = (rowT t j).getD k false := rfl
            have hatik : atT t i k = (rowT t i).getD k false := rfl
            rw [← hatjk] at hgjk
            rw [← hatik] at hgik
            refine AW.skip ?_
            refine hK8 _ _ _ ?_; clear hK8
            refine AW.seq fun K9 hK9 => ?_
            refine AW.block ?_
            refine AW.sg [3,4,5,6,62] [] (e2 @hrl (e5 @hlen @bools_len @hgi @hri (e5 @hgj @hrj @hgij @hgjk @hgik))) ?_
            repeat with_reducible refine cj ?_ ?_
            all_goals try first | ((intro hh; (repeat' apply And.intro) <;> first | exact hh | omega)) | (intros; (repeat' apply And.intro) <;> first | assumption | ((intro hh; (repeat' apply And.intro) <;> first | exact hh | omega))) | omega | (intro hgd; exact absurd hgd (by decide)) | rfl | (simp only [go_sem, reduceIte, reduceCtorEq, zA, zM, zE, zL, zD, zS, zP, zB, zI, zR, hrl, hlen, bools_len, hgi, hri, hgj, hrj, hgij, hgjk, hgik]; done) | (intro _hgd; simp_all [go_sem]; done)
            refine AW.cn ?_ ?_
            · intro hb
              refine AW.sg [2] [] (e3 @hrl @hlen @bools_len) ?_
              -- ret 3
              rw [← hQl3, ← hQl2, ← hQl1, ← hQr]
              refine AW.rt (e3 @hrl @hlen @bools_len) ?_
              have hf : poB n t = false := by
                cases e : poB n t with
                | false => rfl
                | true => have := (hpo.1 e).trans i j k (by omega) (by omega) (by omega) hb.1.1 hb.1.2; rw [hb.2] at this; cases this
              exact Wk.of_eq (by rw [hf])
            · intro hb
              refine AW.skip ?_
              refine hK9 _ _ _ ?_; clear hK9
              refine AW.rg [3,4,5,6] [] (e3 @hrl @hlen @bools_len) ?_
              -- again 3
              rw [← hQl3]; change Exists _
              refine ⟨_, eO, k + 1, rfl, eD, eD, ?_⟩
              refine ⟨by omega, fun c hc h1 h2 => ?_⟩
              by_cases e : c = k
              · subst e
                revert hb; rw [h1, h2]; cases atT t i c <;> simp
              · exact hal3 c (by omega) h1 h2
          · intro hb
            have hk2 : k = n := by omega
            -- exit 4
            refine AW.kx [3,4,5] [] ?_
            rw [← hQl3]
            refine hK7 _ _ _ ?_; clear hK7
            refine AW.rg [3,4,5] [] (e3 @hrl @hlen @bools_len) ?_
            -- again 2
            rw [← hQl2]; change Exists _
            refine ⟨_, eO, j + 1, rfl, eD, eD, ?_⟩
            refine ⟨by omega, fun b c hb2 hc h1 h2 => ?_⟩
            by_cases e : b = j
            · subst e; exact hal3 c (by omega) h1 h2
            · exact hal2 b c (by omega) hc h1 h2
        · intro hb
          have hj2 : j = n := by omega
          -- exit 2
          refine AW.kx [3,4] [] ?_
          rw [← hQl2]
          refine hK4 _ _ _ ?_; clear hK4
          refine AW.rg [3,4] [] (e3 @hrl @hlen @bools_len) ?_
          -- again 1
          rw [← hQl1]; change Exists _
          refine ⟨_, eO, i + 1, rfl, eD, eD, ?_⟩
          refine ⟨by omega, fun a ha => ?_⟩
          by_cases e : a = i
          · subst e; exact ⟨hir, fun b c hb2 hc => hal2 b c (by omega) hc⟩
          · exact hal a (by omega)
    · intro hb
      -- exit 0
      refine AW.kx [] [] ?_
      rw [← hQl1]
      refine hK2 _ _ _ ?_; clear hK2
      refine AW.sg [2] [] (e3 @hrl @hlen @bools_len) ?_
      -- ret 4
      rw [← hQr]
      refine AW.rt (e3 @hrl @hlen @bools_len) ?_
      have hi2 : i = n := by omega
      have hp : IsPo n t := ⟨fun a ha => (hal a (by omega)).1, fun a b c ha hb2 hc => (hal a (by omega)).2 b c hb2 hc⟩
      exact Wk.of_eq (by rw [hpo.2 hp])
end Go.Proofs.B

/- Joins by the definition. -/
namespace Go.AM
def lq (t : List (List Bool)) (i x : Nat) : Bool := decide (i = x) || atT t i x
theorem lq_trans {n : Nat} {t : List (List Bool)} (hp : IsPo n t) {i j k : Nat} (hi : i < n) (hj : j < n) (hk : k < n) (h1 : lq t i j = true) (h2 : lq t j k = true) : lq t i k = true := by
  unfold lq at *
  simp only [Bool.or_eq_true, decide_eq_true_eq] at *
  rcases h1 with rfl | h1
  · exact h2
  · rcases h2 with rfl | h2
    · exact .inr h1
    · exact .inr (hp.trans i j k hi hj hk h1 h2)
theorem lq_refl (t : List (List Bool)) (i : Nat) : lq t i i = true := by unfold lq; simp
theorem andR_at {n : Nat} {t : List (List Bool)} (hs : Sq n t) {i j x : Nat} (hi : i < n) (hj : j < n) (hx : x < n) : (andR (upR t n) i j).getD x false = (lq t i x && lq t j x) := by
  have h1 : ((upR t n).getD i []).length = n := by rw [upR_get hi, List.length_set, hs.rowLen hi]
  have h2 : ((upR t n).getD j []).length = n := by rw [upR_get hj, List.length_set, hs.rowLen hj]
  have e1 := upR_at hs hi (x := x)
  have e2 := upR_at hs hj (x := x)
  unfold andR lq
  rw [← e1, ← e2]
  generalize (upR t n).getD i [] = a at *
  generalize (upR t n).getD j [] = b at *
  simp [List.getD_eq_getElem?_getD, List.getElem?_zipWith, show x < a.length by omega, show x < b.length by omega]
end Go.AM

namespace Go.Proofs.B
open Go.AM Go
set_option maxRecDepth 100000
set_option maxHeartbeats 4000000
def longG (x : USet) : Bool := decide ((20 : Int) < x.W.length)
theorem great1_r (x : USet) (hx : x.W.length ≤ 9223372036854775807) : Reads Tryz.prog 48 false [.agg (rowV x)] (.bool (longG x)) := by
  unfold rowV
  refine Reads.body (rs := [.tmp 2]) Tryz.func48 rfl Tryz.ntmps48 rfl (by simp) ?_
  generalize hQr : retQ _ _ _ = Qr
  -- block 1
  refine AW.sg [1] [1] trivial ?_
  refine AW.sg [2] [] trivial ?_
  -- ret 1
  rw [← hQr]
  refine AW.rt trivial ?_
  exact Wk.refl _
theorem ixg_r (rs : List USet) (hl : longR rs) : Reads Tryz.prog 29 false [.rsl 2 (rs.map rowV), .fn 48 []] (.int .i64 (ixf longG rs)) := by
  have hbp := fun x hxm => great1_r x (hl.2 x hxm)
  have hl1 := hl.1
  refine Reads.body (rs := [.tmp 4]) Tryz.func29 rfl Tryz.ntmps29 rfl (by simp) ?_
  generalize hQr : retQ _ _ _ = Qr
  -- block 2
  refine AW.sg [0,1] [] trivial ?_
  refine AW.seq fun K1 hK1 => ?_
  refine AW.sg [0,1,7,8] [] trivial ?_
  refine AW.block ?_
  refine AW.loopE (fun mm ee ss kk => ∃ (j : Nat), rs.length - j = mm ∧ ee = [(0, .rsl 2 (rs.map rowV)), (1, .fn 48 []), (7, .int .i64 rs.length), (8, .int .i64 (j : Nat))] ∧ ss = [] ∧ (j ≤ rs.length ∧ (rs.take j).any longG = false)) ?_ ?_
  -- init 1
  · exact ⟨_, 0, rfl, eD, eD, eT⟩
  rintro mm ee ss kk ⟨j, rfl, rfl, rfl, hI⟩
  generalize hQl1 : thenQ _ _ = Ql1
  obtain ⟨hj, hall⟩ := hI
  refine AW.sg [0,1,7,8,9] [] trivial ?_
  refine AW.seq fun K2 hK2 => ?_
  refine AW.cn ?_ ?_
  · intro hb
    obtain ⟨x, hx⟩ := getI (l := rs) (j := j) (by omega)
    have hgx := getV (f := rowV) hx
    have hats := any_take_succ (p := longG) hx
    have hbx := hbp x (List.mem_of_getElem? hx)
    refine AW.skip ?_
    refine hK2 _ _ _ ?_; clear hK2
    refine AW.seq fun K3 hK3 => ?_
    refine AW.block ?_
    refine AW.sg [0,1,5,7,8] [] trivial ?_
    refine AW.so 0 (fun ii => if ii = 5 then some (.reads false (.bool (longG x))) else none) [0,1,5,7,8,16] [] (e2 @hgx @rowV.eq_1) ?_
    repeat with_reducible refine cj ?_ ?_
    all_goals try first | (exact hbx) | omega | exact ent (by kernel_rfl)
    refine AW.cn ?_ ?_
    · intro hb
      refine AW.sg [4] [] trivial ?_
      -- ret 1
      rw [← hQl1, ← hQr]
      refine AW.rt trivial ?_
      exact Wk.of_eq (by rw [ixf_at hx hb hall])
    · intro hb
      refine AW.skip ?_
      refine hK3 _ _ _ ?_; clear hK3
      refine AW.rg [0,1,7,8] [] trivial ?_
      -- again 1
      rw [← hQl1]; change Exists _
      exact ⟨_, eO, j + 1, rfl, eD, eD, (⟨by omega, by rw [hats, hall, hb]; rfl⟩)⟩
  · intro hb
    -- exit 0
    refine AW.kx [] [] ?_
    rw [← hQl1]
    refine hK1 _ _ _ ?_; clear hK1
    refine AW.sg [4] [] trivial ?_
    -- ret 2
    rw [← hQr]
    refine AW.rt trivial ?_
    exact Wk.of_eq (by rw [List.take_of_length_le (by omega)] at hall; rw [ixf_none hall])
theorem ctg_r (rs : List USet) (hl : longR rs) : Reads Tryz.prog 47 false [.rsl 2 (rs.map rowV), .fn 48 []] (.bool (rs.any longG)) := by
  have h := ixg_r rs hl
  have hge := ixf_ge longG rs
  refine Reads.body (rs := [.tmp 4]) Tryz.func47 rfl Tryz.ntmps47 rfl (by simp) ?_
  generalize hQr : retQ _ _ _ = Qr
  -- block 3
  refine AW.sg [0,1] [] trivial ?_
  refine AW.so 0 (fun ii => if ii = 2 then some (.reads false (.int .i64 (ixf longG rs))) else none) [4] [] trivial ?_
  repeat with_reducible refine cj ?_ ?_
  all_goals try first | (exact h) | omega | exact ent (by kernel_rfl)
  -- ret 1
  rw [← hQr]
  refine AW.rt trivial ?_
  exact Wk.of_eq (by rw [hge])
def greatB (rs : List USet) : Bool := decide ((30 : Int) < rs.length) || rs.any longG
theorem great_r (rs : List USet) (hl : longR rs) : Reads Tryz.prog 10 false [relV rs] (.bool (greatB rs)) := by
  have h := Reads.flat (ctg_r rs hl) rfl
  have hl1 := hl.1
  unfold relV
  refine Reads.body (rs := [.tmp 2]) Tryz.func10 rfl Tryz.ntmps10 rfl (by simp) ?_
  generalize hQr : retQ _ _ _ = Qr
  -- block 4
  refine AW.sg [1] [1] trivial ?_
  refine AW.so 0 (fun ii => if ii = 7 then some (.reads true (.bool (rs.any longG))) else none) [2] [] trivial ?_
  repeat with_reducible refine cj ?_ ?_
  all_goals try first | ((intro hh; exact ⟨hh, h⟩)) | (intros; (repeat' apply And.intro) <;> first | assumption | ((intro hh; exact ⟨hh, h⟩))) | omega | exact ent (by kernel_rfl) | (intro hgd; exact absurd hgd (by decide)) | rfl | exact gD | (intro _hgd; simp_all [go_sem]; done)
  -- ret 1
  rw [← hQr]
  refine AW.rt trivial ?_
  exact Wk.of_eq (by unfold greatB; rfl)
theorem order_r (es : List (List AV)) (v : Bool) (h : Reads Tryz.prog 49 false [.agg [.rsl 2 es]] (.bool v)) : Reads Tryz.prog 11 false [.agg [.rsl 2 es]] (.bool v) := by
  refine Reads.body (rs := [.tmp 2]) Tryz.func11 rfl Tryz.ntmps11 rfl (by simp) ?_
  generalize hQr : retQ _ _ _ = Qr
  -- block 5
  refine AW.sg [1] [1] trivial ?_
  refine AW.so 0 (fun ii => if ii = 1 then some (.reads false (.bool v)) else none) [2] [] trivial ?_
  repeat with_reducible refine cj ?_ ?_
  all_goals try first | (exact h) | omega | exact ent (by kernel_rfl)
  -- ret 1
  rw [← hQr]
  refine AW.rt trivial ?_
  exact Wk.refl _
end Go.Proofs.B

namespace Go.Proofs.B
open Go.AM Go
set_option maxRecDepth 100000
set_option maxHeartbeats 4000000
theorem rval_bad (rs : List USet) (hl : longR rs) (hb : BadP rs) : Reads Tryz.prog 58 false [relV rs] (.bool false) ∧ Reads Tryz.prog 49 false [relV rs] (.bool false) := by
  rcases hb with hv | ⟨t, ht, hs, hn, hp⟩
  · exact ⟨pvalid_e rs hl hv, rval_e rs hl hv⟩
  · have h1 := pvalid_g _ t hs hn
    have h2 := rval_g _ t hs hn
    rw [hp, relB_SB, ← ht] at h1 h2
    exact ⟨h1, h2⟩
end Go.Proofs.B

/- The laws of joins and meets. -/
namespace Go.AM
/-- J gives the least upper bounds of q on the first n numbers. -/
def IsJ (q : Nat → Nat → Bool) (n : Nat) (J : Nat → Nat → Nat) : Prop := ∀ i j, i < n → j < n → J i j < n ∧ ∀ x, x < n → q (J i j) x = (q i x && q j x)
structure PoQ (q : Nat → Nat → Bool) (n : Nat) : Prop where
  refl : ∀ i, q i i = true
  trans : ∀ i j k, i < n → j < n → k < n → q i j = true → q j k = true → q i k = true
  anti : ∀ i j, i < n → j < n → q i j = true → q j i = true → i = j
theorem PoQ.ext {q : Nat → Nat → Bool} {n : Nat} (p : PoQ q n) {a b : Nat} (ha : a < n) (hb : b < n) (h : ∀ x, x < n → q a x = q b x) : a = b :=
  p.anti a b ha hb (by rw [h b hb]; exact p.refl b) (by rw [← h a ha]; exact p.refl a)
theorem IsJ.comm {q : Nat → Nat → Bool} {n : Nat} {J : Nat → Nat → Nat} (p : PoQ q n) (h : IsJ q n J) {i j : Nat} (hi : i < n) (hj : j < n) : J i j = J j i :=
  p.ext (h i j hi hj).1 (h j i hj hi).1 fun x hx => by rw [(h i j hi hj).2 x hx, (h j i hj hi).2 x hx, Bool.and_comm]
theorem IsJ.assoc {q : Nat → Nat → Bool} {n : Nat} {J : Nat → Nat → Nat} (p : PoQ q n) (h : IsJ q n J) {i j k : Nat} (hi : i < n) (hj : j < n) (hk : k < n) : J i (J j k) = J (J i j) k := by
  have h1 := h j k hj hk
  have h2 := h i j hi hj
  have h3 := h i (J j k) hi h1.1
  have h4 := h (J i j) k h2.1 hk
  exact p.ext h3.1 h4.1 fun x hx => by rw [h3.2 x hx, h4.2 x hx, h1.2 x hx, h2.2 x hx, Bool.and_assoc]
theorem IsJ.idem {q : Nat → Nat → Bool} {n : Nat} {J : Nat → Nat → Nat} (p : PoQ q n) (h : IsJ q n J) {i : Nat} (hi : i < n) : J i i = i :=
  p.ext (h i i hi hi).1 hi fun x hx => by rw [(h i i hi hi).2 x hx, Bool.and_self]
theorem IsJ.le {q : Nat → Nat → Bool} {n : Nat} {J : Nat → Nat → Nat} (p : PoQ q n) (h : IsJ q n J) {i j : Nat} (hi : i < n) (hj : j < n) : q i (J i j) = true ∧ q j (J i j) = true := by
  have h1 := h i j hi hj
  have h2 := h1.2 (J i j) h1.1
  rw [p.refl, eq_comm, Bool.and_eq_true] at h2
  exact h2
theorem IsJ.eqr {q : Nat → Nat → Bool} {n : Nat} {J : Nat → Nat → Nat} (p : PoQ q n) (h : IsJ q n J) {i j : Nat} (hi : i < n) (hj : j < n) : decide (J i j = j) = q i j := by
  rw [Bool.eq_iff_iff, decide_eq_true_eq]
  constructor
  · intro e
    have := (h.le p hi hj).1
    rw [e] at this; exact this
  · intro e
    have h1 := h i j hi hj
    refine p.ext h1.1 hj fun x hx => ?_
    rw [h1.2 x hx]
    cases hq : q j x
    · rw [Bool.and_false]
    · rw [p.trans i j x hi hj hx e hq]; rfl
/-- Absorption: the join with something below. -/
theorem IsJ.absorb {q : Nat → Nat → Bool} {n : Nat} {J : Nat → Nat → Nat} (p : PoQ q n) (h : IsJ q n J) {i m : Nat} (hi : i < n) (hm : m < n) (hq : q m i = true) : J i m = i := by
  rw [h.comm p hi hm]
  have := h.eqr p hm hi
  rw [hq] at this
  exact of_decide_eq_true this
theorem lq_po {n : Nat} {t : List (List Bool)} (hp : IsPo n t) : PoQ (lq t) n := ⟨lq_refl t, fun i j k hi hj hk => lq_trans hp hi hj hk, fun i j hi hj h1 h2 => by
  unfold lq at h1 h2
  simp only [Bool.or_eq_true, decide_eq_true_eq] at h1 h2
  rcases h1 with h1 | h1
  · exact h1
  · rcases h2 with h2 | h2
    · exact h2.symm
    · have h3 := hp.trans i j i hi hj hi h1 h2
      rw [hp.irr i hi] at h3; cases h3⟩
theorem lq_inv {n : Nat} {t : List (List Bool)} {i j : Nat} (hi : i < n) (hj : j < n) : lq (invT n t) i j = lq t j i := by
  unfold lq
  rw [atT_inv hi hj, show decide (i = j) = decide (j = i) from decide_eq_decide.2 eq_comm]
theorem lat_bnd {n : Nat} {t : List (List Bool)} (h : latB t n = true) {i j : Nat} (hi : i < n) (hj : j < n) : 0 ≤ bndF (upR t n) i j ∧ 0 ≤ bndF (upR (invT n t) n) i j := by
  unfold latB at h
  rw [Bool.and_eq_true] at h
  have h1 := List.all_eq_true.1 h.2 i (List.mem_range.2 hi)
  rw [Bool.and_eq_true] at h1
  have key : ∀ G : List (List Bool), G.length = n → noneT (bndT G) i = true → 0 ≤ bndF G i j := fun G hG hg => by
    unfold noneT at hg
    rw [Bool.not_eq_true', decide_eq_false_iff_not, bndT_row (by omega), List.mem_map, hG] at hg
    have := (ixf_lt (fun s => decide (s = andR G i j)) G).1
    apply Classical.byContradiction
    intro hn
    exact hg ⟨j, List.mem_range.2 hj, by unfold bndF at *; omega⟩
  exact ⟨key _ (upR_len t n) h1.1, key _ (upR_len _ n) h1.2⟩
def jnN (t : List (List Bool)) (n i j : Nat) : Nat := (bndF (upR t n) i j).toNat
theorem jn_of {n : Nat} {t : List (List Bool)} (hs : Sq n t) {i j : Nat} (hi : i < n) (hj : j < n) (h : 0 ≤ bndF (upR t n) i j) : jnN t n i j < n ∧ ∀ x, x < n → lq t (jnN t n i j) x = (lq t i x && lq t j x) := by
  unfold jnN
  have hge := ixf_ge (fun s => decide (s = andR (upR t n) i j)) (upR t n)
  unfold bndF at h ⊢
  rw [decide_eq_true h] at hge
  unfold ixf
  rw [if_pos hge.symm, Int.toNat_natCast]
  have hlt := List.findIdx_lt_length_of_exists (p := fun s => decide (s = andR (upR t n) i j)) (xs := upR t n) (by
    obtain ⟨x, hx, hp⟩ := List.any_eq_true.1 hge.symm
    exact ⟨x, hx, hp⟩)
  have hat := List.findIdx_getElem (w := hlt)
  have hat := of_decide_eq_true hat
  have hl := upR_len t n
  refine ⟨by omega, fun x hx => ?_⟩
  have e1 := upR_at hs (i := List.findIdx (fun s => decide (s = andR (upR t n) i j)) (upR t n)) (by omega) (x := x)
  unfold lq at *
  rw [← e1, show (upR t n).getD (List.findIdx (fun s => decide (s = andR (upR t n) i j)) (upR t n)) [] = andR (upR t n) i j by
    refine Eq.trans ?_ hat
    rw [List.getD_eq_getElem?_getD, List.getElem?_eq_getElem hlt]; rfl]
  have := andR_at hs hi hj hx
  unfold lq at this
  exact this
theorem lat_J {n : Nat} {t : List (List Bool)} (hs : Sq n t) (h : latB t n = true) : IsJ (lq t) n (jnN t n) := fun _ _ hi hj => jn_of hs hi hj (lat_bnd h hi hj).1
theorem lat_M {n : Nat} {t : List (List Bool)} (h : latB t n = true) : IsJ (lq (invT n t)) n (jnN (invT n t) n) := fun _ _ hi hj => jn_of Sq.inv hi hj (lat_bnd h hi hj).2
end Go.AM

namespace Go.Proofs.B
open Go.AM Go
set_option maxRecDepth 100000
set_option maxHeartbeats 4000000
theorem lup_u (es : List (List AV)) (i j z : Int) (h : Reads Tryz.prog 17 false [.agg [.rsl 2 es], .int .i64 i, .int .i64 j] (.tup [.int .i64 z, .int .i64 0])) (g0 v0 g1 v1 : Nat) :
    Upd Tryz.prog 44 [(0, some ⟨g0, v0, 1, [[.rsl 2 es]]⟩), (1, some ⟨g1, v1, 1, [[.bool true]]⟩)] [.int .i64 i, .int .i64 j, .ptr ⟨0, g0, none⟩ 0 0, .ptr ⟨1, g1, none⟩ 0 0] (fun _ => .int .i64 z)
    (fun k => [(0, some ⟨g0, k, 1, [[.rsl 2 es]]⟩), (1, some ⟨g1, k, 1, [[.bool true]]⟩)]) := by
  refine Upd.of_body (rs := [.tmp 6]) Tryz.func44 rfl Tryz.ntmps44 rfl (by simp) ?_
  intro k0 k hk0 hk1
  generalize hQr : retQ _ _ _ = Qr
  -- block 1
  refine AW.so 100 (fun _ => none) [0,1,2,3] [0,1] trivial ?_
  refine AW.so 100 (fun ii => if ii = 3 then some (.reads false (.tup [.int .i64 z, .int .i64 0])) else none) [3,7,8] [0,1] trivial ?_
  repeat with_reducible refine cj ?_ ?_
  all_goals try first | (exact h) | omega | exact ent (by kernel_rfl)
  refine AW.so 100 (fun _ => none) [7] [0,1] trivial ?_
  repeat with_reducible refine cj ?_ ?_
  all_goals try first | omega | (intros; (repeat' apply And.intro) <;> first | assumption | omega | decide) | (intro hgd; exact absurd hgd (by decide)) | rfl | exact gD | (intro _hgd; simp_all [go_sem]; done)
  refine AW.so 100 (fun _ => none) [6] [0,1] trivial ?_
  -- ret 1
  rw [← hQr]
  refine AW.rt trivial ?_
  refine ⟨[(0, 0, false), (1, 1, false)], ?_⟩
  simp only [go_sem, reduceIte, zE]
  rfl
theorem ldn_u (es : List (List AV)) (i j z : Int) (h : Reads Tryz.prog 18 false [.agg [.rsl 2 es], .int .i64 i, .int .i64 j] (.tup [.int .i64 z, .int .i64 0])) (g0 v0 g1 v1 : Nat) :
    Upd Tryz.prog 45 [(0, some ⟨g0, v0, 1, [[.rsl 2 es]]⟩), (1, some ⟨g1, v1, 1, [[.bool true]]⟩)] [.int .i64 i, .int .i64 j, .ptr ⟨0, g0, none⟩ 0 0, .ptr ⟨1, g1, none⟩ 0 0] (fun _ => .int .i64 z)
    (fun k => [(0, some ⟨g0, k, 1, [[.rsl 2 es]]⟩), (1, some ⟨g1, k, 1, [[.bool true]]⟩)]) := by
  refine Upd.of_body (rs := [.tmp 6]) Tryz.func45 rfl Tryz.ntmps45 rfl (by simp) ?_
  intro k0 k hk0 hk1
  generalize hQr : retQ _ _ _ = Qr
  -- block 2
  refine AW.so 100 (fun _ => none) [0,1,2,3] [0,1] trivial ?_
  refine AW.so 100 (fun ii => if ii = 3 then some (.reads false (.tup [.int .i64 z, .int .i64 0])) else none) [3,7,8] [0,1] trivial ?_
  repeat with_reducible refine cj ?_ ?_
  all_goals try first | (exact h) | omega | exact ent (by kernel_rfl)
  refine AW.so 100 (fun _ => none) [7] [0,1] trivial ?_
  repeat with_reducible refine cj ?_ ?_
  all_goals try first | omega | (intros; (repeat' apply And.intro) <;> first | assumption | omega | decide) | (intro hgd; exact absurd hgd (by decide)) | rfl | exact gD | (intro _hgd; simp_all [go_sem]; done)
  refine AW.so 100 (fun _ => none) [6] [0,1] trivial ?_
  -- ret 1
  rw [← hQr]
  refine AW.rt trivial ?_
  refine ⟨[(0, 0, false), (1, 1, false)], ?_⟩
  simp only [go_sem, reduceIte, zE]
  rfl
end Go.Proofs.B

/- A long region may be run in two parts. -/
namespace Go.AM
end Go.AM

namespace Go.Proofs.B
open Go.AM Go
set_option maxRecDepth 100000
set_option maxHeartbeats 8000000
theorem laws_0 (rs : List USet) (hl : longR rs) (i j k : Int) (h : greatB rs = true ∨ (greatB rs = false ∧ Reads Tryz.prog 15 false [relV rs] (.bool false))) : Reads Tryz.prog 8 false [relV rs, .int .i64 i, .int .i64 j, .int .i64 k] (.bool true) := by
  have ha := awake_r
  have hg := great_r rs hl
  have hlt : ∃ b : Bool, (greatB rs = true ∨ b = false) ∧ (greatB rs = false → Reads Tryz.prog 15 false [relV rs] (.bool b)) := by
    rcases h with h | ⟨h, h2⟩
    · exact ⟨true, .inl h, fun e => by rw [h] at e; cases e⟩
    · exact ⟨false, .inr rfl, fun _ => h2⟩
  obtain ⟨b, hgb, hlat⟩ := hlt
  generalize greatB rs = gr at *
  unfold relV at *
  refine Reads.body (rs := [.tmp 8]) Tryz.func8 rfl Tryz.ntmps8 rfl (by simp) ?_
  generalize hQr : retQ _ _ _ = Qr
  -- block 1
  refine AW.sg [1,2,3,4] [4] trivial ?_
  refine AW.seq fun K1 hK1 => ?_
  refine AW.so 0 (fun ii => if ii = 0 then some (.reads false (.bool true)) else none) [1,2,3,4,16] [4] trivial ?_
  repeat with_reducible refine cj ?_ ?_
  all_goals try first | (exact ha) | omega | exact ent (by kernel_rfl)
  refine AW.cn ?_ ?_
  · intro hb
    exfalso; simp at hb
  · intro hb
    refine AW.skip ?_
    refine hK1 _ _ _ ?_; clear hK1
    refine AW.sg [1,2,3,4,9] [4] trivial ?_
    refine AW.seq fun K2 hK2 => ?_
    refine AW.so 0 (fun ii => if ii = 1 then some (.reads false (.bool gr)) else if ii = 4 then some (.reads false (.bool b)) else none) [1,2,3,4,53] [4] trivial ?_
    repeat with_reducible refine cj ?_ ?_
    all_goals try first | (first | exact hg | (intro hh; exact ⟨hh, hlat (by simpa using hh)⟩) | exact fun hh => hlat (by simpa using hh)) | (intros; (repeat' apply And.intro) <;> first | assumption | (first | exact hg | (intro hh; exact ⟨hh, hlat (by simpa using hh)⟩) | exact fun hh => hlat (by simpa using hh))) | omega | exact ent (by kernel_rfl) | (intro hgd; exact absurd hgd (by decide)) | rfl | exact gD | (intro _hgd; simp_all [go_sem]; done)
    refine AW.cn ?_ ?_
    · intro hb
      refine AW.sg [8] [] trivial ?_
      -- ret 2
      rw [← hQr]
      refine AW.rt trivial ?_
      exact Wk.refl _
    · intro hb
      exfalso; revert hb; rcases hgb with h | h <;> simp [h]
theorem laws_o (n : Nat) (t : List (List Bool)) (hs : Sq n t) (hn : n ≤ 512) (hf : greatB (t.map SB) = false) (hlat : Reads Tryz.prog 15 false [relB t] (.bool true)) (i j k : Int) (ho : ¬ (0 ≤ i ∧ i < n ∧ 0 ≤ j ∧ j < n ∧ 0 ≤ k ∧ k < n)) : Reads Tryz.prog 8 false [relB t, .int .i64 i, .int .i64 j, .int .i64 k] (.bool true) := by
  have ha := awake_r
  have hg := great_r (t.map SB) (longR_SB hs hn)
  rw [hf, ← relB_SB] at hg
  have hlt : (tabR t).length = n := by rw [tabR_len, hs.len]
  unfold relB at *
  refine Reads.body (rs := [.tmp 8]) Tryz.func8 rfl Tryz.ntmps8 rfl (by simp) ?_
  generalize hQr : retQ _ _ _ = Qr
  -- block 2
  refine AW.sg [1,2,3,4] [4] trivial ?_
  refine AW.seq fun K1 hK1 => ?_
  refine AW.so 0 (fun ii => if ii = 0 then some (.reads false (.bool true)) else none) [1,2,3,4,16] [4] trivial ?_
  repeat with_reducible refine cj ?_ ?_
  all_goals try first | (exact ha) | omega | exact ent (by kernel_rfl)
  refine AW.cn ?_ ?_
  · intro hb
    exfalso; simp at hb
  · intro hb
    refine AW.skip ?_
    refine hK1 _ _ _ ?_; clear hK1
    refine AW.sg [1,2,3,4,9] [4] (@hlt) ?_
    refine AW.seq fun K2 hK2 => ?_
    refine AW.so 0 (fun ii => if ii = 1 then some (.reads false (.bool false)) else if ii = 4 then some (.reads false (.bool true)) else none) [1,2,3,4,53] [4] trivial ?_
    repeat with_reducible refine cj ?_ ?_
    all_goals try first | (first | exact hg | (intro hh; exact ⟨hh, hlat⟩) | exact fun _ => hlat) | (intros; (repeat' apply And.intro) <;> first | assumption | (first | exact hg | (intro hh; exact ⟨hh, hlat⟩) | exact fun _ => hlat)) | omega | exact ent (by kernel_rfl) | (intro hgd; exact absurd hgd (by decide)) | rfl | exact gD | (intro _hgd; simp_all [go_sem]; done)
    refine AW.cn ?_ ?_
    · intro hb
      refine AW.sg [8] [] trivial ?_
      -- ret 2
      rw [← hQr]
      refine AW.rt trivial ?_
      exact Wk.refl _
    · intro hb
      exfalso; omega
theorem laws_g (n : Nat) (t : List (List Bool)) (hs : Sq n t) (hn : n ≤ 512) (hp : poB n t = true) (hf : greatB (t.map SB) = false) (hlt0 : latB t n = true) (i j k : Nat) (hi : i < n) (hj : j < n) (hk : k < n) : Reads Tryz.prog 8 false [relB t, .int .i64 (i : Nat), .int .i64 (j : Nat), .int .i64 (k : Nat)] (.bool true) := by
  have ha := awake_r
  have hg := great_r (t.map SB) (longR_SB hs hn)
  rw [hf, ← relB_SB] at hg
  have hpo := (poB_iff hs).1 hp
  have hil := islat_g n t hs hn hp
  rw [hlt0] at hil
  have hv := rval_g n t hs hn
  rw [hp] at hv
  have htb := (table_r n t hs hn).old
  have hlr : (rowsR t).length = n := by rw [rowsR_len, hs.len]
  have hlt : (tabR t).length = n := by rw [tabR_len, hs.len]
  have hsl := hs.len
  have hgr := rowsR_get (t := t) (i := i) (by omega)
  have hri := hs.rowLen hi
  have hgx := bools_getD (l := rowT t i) (i := j) (by omega)
  have hq := lq_po hpo
  have hqv := lq_po hpo.inv
  have hJ := lat_J hs hlt0
  have hM := lat_M hlt0
  have hjn : ∀ a b, a < n → b < n → Reads Tryz.prog 17 false [relB t, .int .i64 (a : Nat), .int .i64 (b : Nat)] (.tup [.int .i64 (jnN t n a b : Nat), .int .i64 0]) := fun a b h1 h2 => by
    have := join_g n t hs hn hp (a : Nat) (b : Nat)
    rw [show oneI t n (a : Nat) (b : Nat) = oneV (bndF (upR t n) a b) from if_pos (by omega)] at this
    have h0 := (lat_bnd hlt0 h1 h2).1
    unfold oneV at this
    rw [if_neg (by omega)] at this
    unfold jnN
    rw [Int.toNat_of_nonneg h0]
    exact this
  have hmt : ∀ a b, a < n → b < n → Reads Tryz.prog 18 false [relB t, .int .i64 (a : Nat), .int .i64 (b : Nat)] (.tup [.int .i64 (jnN (invT n t) n a b : Nat), .int .i64 0]) := fun a b h1 h2 => by
    have := meet_g n t hs hn hp (a : Nat) (b : Nat)
    rw [show oneI (invT n t) n (a : Nat) (b : Nat) = oneV (bndF (upR (invT n t) n) a b) from if_pos (by omega)] at this
    have h0 := (lat_bnd hlt0 h1 h2).2
    unfold oneV at this
    rw [if_neg (by omega)] at this
    unfold jnN
    rw [Int.toNat_of_nonneg h0]
    exact this
  have hab1 : jnN t n i (jnN (invT n t) n i j) = i := hJ.absorb hq hi (hM i j hi hj).1 (by
    have := (hM.le hqv hi hj).1
    rw [lq_inv hi (hM i j hi hj).1] at this
    exact this)
  have hab2 : jnN (invT n t) n i (jnN t n i j) = i := hM.absorb hqv hi (hJ i j hi hj).1 (by
    rw [lq_inv (hJ i j hi hj).1 hi]
    exact (hJ.le hq hi hj).1)
  have hlj : decide (jnN t n i j = j) = lq t i j := hJ.eqr hq hi hj
  have hlm : decide (jnN (invT n t) n i j = i) = lq t i j := by
    rw [hM.comm hqv hi hj, ← lq_inv hj hi]
    exact hM.eqr hqv hj hi
  have hlq : lq t i j = (decide (i = j) || (rowT t i).getD j false) := rfl
  have hJc := hJ.comm hq hi hj
  have hMc := hM.comm hqv hi hj
  have hJa := hJ.assoc hq hi hj hk
  have hMa := hM.assoc hqv hi hj hk
  have hJi := hJ.idem hq hi
  have hMi := hM.idem hqv hi
  have hJb := fun a b h1 h2 => (hJ a b h1 h2).1
  have hMb := fun a b h1 h2 => (hM a b h1 h2).1
  have ju : ∀ a b z : Nat, a < n → b < n → jnN t n a b = z → ∀ g0 v0 g1 v1, Upd Tryz.prog 44 [(0, some ⟨g0, v0, 1, [[.rsl 2 (tabR t)]]⟩), (1, some ⟨g1, v1, 1, [[.bool true]]⟩)] [.int .i64 (a : Nat), .int .i64 (b : Nat), .ptr ⟨0, g0, none⟩ 0 0, .ptr ⟨1, g1, none⟩ 0 0] (fun _ => .int .i64 (z : Nat)) (fun k => [(0, some ⟨g0, k, 1, [[.rsl 2 (tabR t)]]⟩), (1, some ⟨g1, k, 1, [[.bool true]]⟩)]) := fun a b z h1 h2 e => by
    rw [← e]; exact lup_u _ _ _ _ (hjn a b h1 h2)
  have mu : ∀ a b z : Nat, a < n → b < n → jnN (invT n t) n a b = z → ∀ g0 v0 g1 v1, Upd Tryz.prog 45 [(0, some ⟨g0, v0, 1, [[.rsl 2 (tabR t)]]⟩), (1, some ⟨g1, v1, 1, [[.bool true]]⟩)] [.int .i64 (a : Nat), .int .i64 (b : Nat), .ptr ⟨0, g0, none⟩ 0 0, .ptr ⟨1, g1, none⟩ 0 0] (fun _ => .int .i64 (z : Nat)) (fun k => [(0, some ⟨g0, k, 1, [[.rsl 2 (tabR t)]]⟩), (1, some ⟨g1, k, 1, [[.bool true]]⟩)]) := fun a b z h1 h2 e => by
    rw [← e]; exact ldn_u _ _ _ _ (hmt a b h1 h2)
  have hA := hJb i j hi hj
  have hE := hJb j k hj hk
  have hD := hMb i j hi hj
  have hH := hMb j k hj hk
  have hFl := hJb i _ hi hE
  have hGl := hMb i _ hi hH
  have hJa' := hJa.symm
  have hMa' := hMa.symm
  have hJc' := hJc.symm
  have hMc' := hMc.symm
  generalize hF : jnN t n i (jnN t n j k) = F at *
  generalize hG : jnN (invT n t) n i (jnN (invT n t) n j k) = G at *
  generalize hAe : jnN t n i j = A at *
  generalize hEe : jnN t n j k = E at *
  generalize hDe : jnN (invT n t) n i j = D at *
  generalize hHe : jnN (invT n t) n j k = H at *
  have c62 := ju i j A hi hj hAe
  have c66 := ju j i A hj hi hJc'
  have c72 := mu i j D hi hj hDe
  have c76 := mu j i D hj hi hMc'
  have c85 := ju j k E hj hk hEe
  have c86 := ju i E F hi hE hF
  have c93 := ju A k F hA hk hJa'
  have c102 := mu j k H hj hk hHe
  have c103 := mu i H G hi hH hG
  have c110 := mu D k G hD hk hMa'
  have c117 := ju i i i hi hi hJi
  have c125 := mu i i i hi hi hMi
  have c136 := ju i D i hi hD hab1
  have c147 := mu i A i hi hA hab2
  clear ju mu hJ hM hJb hMb hjn hmt hq hqv hJa hMa hJa' hMa' hJi hMi hab1 hab2
  clear hF hG hAe hEe hDe hHe
  rw [hlq] at hlj hlm
  generalize (rowT t i).getD j false = q at *
  unfold relB at *
  have hod := order_r _ _ hv
  generalize hr : rowT t i = r at *
  have cst : ∀ a b : Nat, decide ((a : Int) = (b : Int)) = decide (a = b) := fun a b => decide_eq_decide.2 (by omega)
  rw [← cst A j, ← cst i j] at hlj
  rw [← cst D i, ← cst i j] at hlm
  clear cst
  generalize hR : rowsR t = R at *
  generalize tabR t = T at *
  refine Reads.body (rs := [.tmp 8]) Tryz.func8 rfl Tryz.ntmps8 rfl (by simp) ?_
  generalize hQr : retQ _ _ _ = Qr
  -- block 3
  refine AW.sg [1,2,3,4] [4] trivial ?_
  refine AW.seq fun K1 hK1 => ?_
  refine AW.so 0 (fun ii => if ii = 0 then some (.reads false (.bool true)) else none) [1,2,3,4,16] [4] trivial ?_
  repeat with_reducible refine cj ?_ ?_
  all_goals try first | (exact ha) | omega | exact ent (by kernel_rfl)
  refine AW.cn ?_ ?_
  · intro hb
    exfalso; simp at hb
  · intro hb
    refine AW.skip ?_
    refine hK1 _ _ _ ?_; clear hK1
    refine AW.sg [1,2,3,4,9] [4] (@hlt) ?_
    refine AW.seq fun K2 hK2 => ?_
    refine AW.so 0 (fun ii => if ii = 1 then some (.reads false (.bool false)) else if ii = 4 then some (.reads false (.bool true)) else none) [1,2,3,4,53] [4] trivial ?_
    repeat with_reducible refine cj ?_ ?_
    all_goals try first | (first | exact hg | (intro hh; exact ⟨hh, hil⟩) | exact fun _ => hil) | (intros; (repeat' apply And.intro) <;> first | assumption | (first | exact hg | (intro hh; exact ⟨hh, hil⟩) | exact fun _ => hil)) | omega | exact ent (by kernel_rfl) | (intro hgd; exact absurd hgd (by decide)) | rfl | exact gD | (intro _hgd; simp_all [go_sem]; done)
    refine AW.cn ?_ ?_
    · intro hb
      exfalso; omega
    · intro hb
      refine AW.skip ?_
      refine hK2 _ _ _ ?_; clear hK2
      refine AW.seq fun K3 hK3 => ?_
      refine AW.so 0 (fun ii => if ii = 1 then some (.reads false (.bool true)) else none) [1,2,3,4,56] [4] trivial ?_
      repeat with_reducible refine cj ?_ ?_
      all_goals try first | (exact hod) | omega | exact ent (by kernel_rfl)
      refine AW.cn ?_ ?_
      · intro hb
        exfalso; simp at hb
      · intro hb
        refine AW.skip ?_
        refine hK3 _ _ _ ?_; clear hK3
        refine AW.sg [1,2,3,4,10] [4,10] trivial ?_
        refine AW.sg [1,2,3,4,10,11] [4,10] trivial ?_
        refine AW.sg [1,2,3,4,10,11,12] [4,10] trivial ?_
        refine AW.seq fun K4 hK4 => ?_
        refine AW.regionK 0 (fun ii => if ii = 3 then some (.upd [4, 10] (fun kk => [(0, some ⟨0, kk, 1, [[.rsl 2 T]]⟩), (1, some ⟨90, kk, 1, [[.bool true]]⟩)]) (fun _ => .int .i64 (A : Nat))) else if ii = 7 then some (.upd [4, 10] (fun kk => [(0, some ⟨0, kk, 1, [[.rsl 2 T]]⟩), (1, some ⟨90, kk, 1, [[.bool true]]⟩)]) (fun _ => .int .i64 (A : Nat))) else if ii = 13 then some (.upd [4, 10] (fun kk => [(0, some ⟨0, kk, 1, [[.rsl 2 T]]⟩), (1, some ⟨90, kk, 1, [[.bool true]]⟩)]) (fun _ => .int .i64 (D : Nat))) else if ii = 17 then some (.upd [4, 10] (fun kk => [(0, some ⟨0, kk, 1, [[.rsl 2 T]]⟩), (1, some ⟨90, kk, 1, [[.bool true]]⟩)]) (fun _ => .int .i64 (D : Nat))) else if ii = 26 then some (.upd [4, 10] (fun kk => [(0, some ⟨0, kk, 1, [[.rsl 2 T]]⟩), (1, some ⟨90, kk, 1, [[.bool true]]⟩)]) (fun _ => .int .i64 (E : Nat))) else if ii = 27 then some (.upd [4, 10] (fun kk => [(0, some ⟨0, kk, 1, [[.rsl 2 T]]⟩), (1, some ⟨90, kk, 1, [[.bool true]]⟩)]) (fun _ => .int .i64 (F : Nat))) else if ii = 32 then some (.upd [4, 10] (fun kk => [(0, some ⟨0, kk, 1, [[.rsl 2 T]]⟩), (1, some ⟨90, kk, 1, [[.bool true]]⟩)]) (fun _ => .int .i64 (A : Nat))) else if ii = 34 then some (.upd [4, 10] (fun kk => [(0, some ⟨0, kk, 1, [[.rsl 2 T]]⟩), (1, some ⟨90, kk, 1, [[.bool true]]⟩)]) (fun _ => .int .i64 (F : Nat))) else if ii = 43 then some (.upd [4, 10] (fun kk => [(0, some ⟨0, kk, 1, [[.rsl 2 T]]⟩), (1, some ⟨90, kk, 1, [[.bool true]]⟩)]) (fun _ => .int .i64 (H : Nat))) else if ii = 44 then some (.upd [4, 10] (fun kk => [(0, some ⟨0, kk, 1, [[.rsl 2 T]]⟩), (1, some ⟨90, kk, 1, [[.bool true]]⟩)]) (fun _ => .int .i64 (G : Nat))) else if ii = 49 then some (.upd [4, 10] (fun kk => [(0, some ⟨0, kk, 1, [[.rsl 2 T]]⟩), (1, some ⟨90, kk, 1, [[.bool true]]⟩)]) (fun _ => .int .i64 (D : Nat))) else if ii = 51 then some (.upd [4, 10] (fun kk => [(0, some ⟨0, kk, 1, [[.rsl 2 T]]⟩), (1, some ⟨90, kk, 1, [[.bool true]]⟩)]) (fun _ => .int .i64 (G : Nat))) else if ii = 58 then some (.upd [4, 10] (fun kk => [(0, some ⟨0, kk, 1, [[.rsl 2 T]]⟩), (1, some ⟨90, kk, 1, [[.bool true]]⟩)]) (fun _ => .int .i64 (i : Nat))) else if ii = 66 then some (.upd [4, 10] (fun kk => [(0, some ⟨0, kk, 1, [[.rsl 2 T]]⟩), (1, some ⟨90, kk, 1, [[.bool true]]⟩)]) (fun _ => .int .i64 (i : Nat))) else if ii = 76 then some (.upd [4, 10] (fun kk => [(0, some ⟨0, kk, 1, [[.rsl 2 T]]⟩), (1, some ⟨90, kk, 1, [[.bool true]]⟩)]) (fun _ => .int .i64 (D : Nat))) else if ii = 77 then some (.upd [4, 10] (fun kk => [(0, some ⟨0, kk, 1, [[.rsl 2 T]]⟩), (1, some ⟨90, kk, 1, [[.bool true]]⟩)]) (fun _ => .int .i64 (i : Nat))) else if ii = 87 then some (.upd [4, 10] (fun kk => [(0, some ⟨0, kk, 1, [[.rsl 2 T]]⟩), (1, some ⟨90, kk, 1, [[.bool true]]⟩)]) (fun _ => .int .i64 (A : Nat))) else if ii = 88 then some (.upd [4, 10] (fun kk => [(0, some ⟨0, kk, 1, [[.rsl 2 T]]⟩), (1, some ⟨90, kk, 1, [[.bool true]]⟩)]) (fun _ => .int .i64 (i : Nat))) else none) [1, 2, 4, 10, 11, 12, 13] [4, 10] ?_
        simp (maxSteps := 2000000) only [go_sem, reduceIte, reduceCtorEq, zA, zM, zE, zL, zD, zS, zP, zB, zI, zR, List.append_eq, List.cons_append, List.nil_append]
        repeat with_reducible refine cj ?_ ?_
        all_goals try first | (first | exact c62 _ _ _ _ | exact c66 _ _ _ _ | exact c72 _ _ _ _ | exact c76 _ _ _ _ | exact c85 _ _ _ _ | exact c86 _ _ _ _ | exact c93 _ _ _ _ | exact c102 _ _ _ _ | exact c103 _ _ _ _ | exact c110 _ _ _ _ | exact c117 _ _ _ _ | exact c125 _ _ _ _ | exact c136 _ _ _ _ | exact c147 _ _ _ _ | (intro hh; refine ⟨hh, ?_⟩; first | exact c62 _ _ _ _ | exact c66 _ _ _ _ | exact c72 _ _ _ _ | exact c76 _ _ _ _ | exact c85 _ _ _ _ | exact c86 _ _ _ _ | exact c93 _ _ _ _ | exact c102 _ _ _ _ | exact c103 _ _ _ _ | exact c110 _ _ _ _ | exact c117 _ _ _ _ | exact c125 _ _ _ _ | exact c136 _ _ _ _ | exact c147 _ _ _ _)) | (intros; (repeat' apply And.intro) <;> first | assumption | (first | exact c62 _ _ _ _ | exact c66 _ _ _ _ | exact c72 _ _ _ _ | exact c76 _ _ _ _ | exact c85 _ _ _ _ | exact c86 _ _ _ _ | exact c93 _ _ _ _ | exact c102 _ _ _ _ | exact c103 _ _ _ _ | exact c110 _ _ _ _ | exact c117 _ _ _ _ | exact c125 _ _ _ _ | exact c136 _ _ _ _ | exact c147 _ _ _ _ | (intro hh; refine ⟨hh, ?_⟩; first | exact c62 _ _ _ _ | exact c66 _ _ _ _ | exact c72 _ _ _ _ | exact c76 _ _ _ _ | exact c85 _ _ _ _ | exact c86 _ _ _ _ | exact c93 _ _ _ _ | exact c102 _ _ _ _ | exact c103 _ _ _ _ | exact c110 _ _ _ _ | exact c117 _ _ _ _ | exact c125 _ _ _ _ | exact c136 _ _ _ _ | exact c147 _ _ _ _))) | omega | exact ent (by kernel_rfl) | (intro hgd; exact absurd hgd (by decide)) | rfl | (simp only [go_sem, reduceIte, reduceCtorEq, zA, zM, zE, zL, zD, zS, zP, zB, zI, zR, List.append_eq, List.cons_append, List.nil_append]; done) | (intro _hgd; simp_all [go_sem]; done)
        refine hK4 _ _ _ ?_; clear hK4
        refine AW.seq fun K5 hK5 => ?_
        refine AW.regionK 0 (fun ii => if ii = 1 then some (.reads false (.rsl 1 R)) else none) [1, 2, 10, 11, 12, 13, 14] [4, 10] ?_
        simp only [go_sem, reduceIte, reduceCtorEq, zA, zM, zE, zL, zD, zS, zP, zB, zI, zR, hlr, hgr, hri, hgx, bools_len]
        repeat with_reducible refine cj ?_ ?_
        all_goals try first | (exact htb) | omega | exact ent (by kernel_rfl)
        refine hK5 _ _ _ ?_; clear hK5
        refine AW.so 0 (fun ii => if ii = 8 then some (.upd [4, 10] (fun kk => [(0, some ⟨0, kk, 1, [[.rsl 2 T]]⟩), (1, some ⟨90, kk, 1, [[.bool true]]⟩)]) (fun _ => .int .i64 (A : Nat))) else if ii = 23 then some (.upd [4, 10] (fun kk => [(0, some ⟨0, kk, 1, [[.rsl 2 T]]⟩), (1, some ⟨90, kk, 1, [[.bool true]]⟩)]) (fun _ => .int .i64 (D : Nat))) else none) [8] [] (e2 @hlj @hlm) ?_
        repeat with_reducible refine cj ?_ ?_
        all_goals try first | (first | exact beq_self_eq_true _ | (intros; exact beq_self_eq_true _) | exact c62 _ _ _ _ | exact c66 _ _ _ _ | exact c72 _ _ _ _ | exact c76 _ _ _ _ | exact c85 _ _ _ _ | exact c86 _ _ _ _ | exact c93 _ _ _ _ | exact c102 _ _ _ _ | exact c103 _ _ _ _ | exact c110 _ _ _ _ | exact c117 _ _ _ _ | exact c125 _ _ _ _ | exact c136 _ _ _ _ | exact c147 _ _ _ _ | (intro hh; refine ⟨hh, ?_⟩; first | exact c62 _ _ _ _ | exact c66 _ _ _ _ | exact c72 _ _ _ _ | exact c76 _ _ _ _ | exact c85 _ _ _ _ | exact c86 _ _ _ _ | exact c93 _ _ _ _ | exact c102 _ _ _ _ | exact c103 _ _ _ _ | exact c110 _ _ _ _ | exact c117 _ _ _ _ | exact c125 _ _ _ _ | exact c136 _ _ _ _ | exact c147 _ _ _ _)) | (intros; (repeat' apply And.intro) <;> first | assumption | (first | exact beq_self_eq_true _ | (intros; exact beq_self_eq_true _) | exact c62 _ _ _ _ | exact c66 _ _ _ _ | exact c72 _ _ _ _ | exact c76 _ _ _ _ | exact c85 _ _ _ _ | exact c86 _ _ _ _ | exact c93 _ _ _ _ | exact c102 _ _ _ _ | exact c103 _ _ _ _ | exact c110 _ _ _ _ | exact c117 _ _ _ _ | exact c125 _ _ _ _ | exact c136 _ _ _ _ | exact c147 _ _ _ _ | (intro hh; refine ⟨hh, ?_⟩; first | exact c62 _ _ _ _ | exact c66 _ _ _ _ | exact c72 _ _ _ _ | exact c76 _ _ _ _ | exact c85 _ _ _ _ | exact c86 _ _ _ _ | exact c93 _ _ _ _ | exact c102 _ _ _ _ | exact c103 _ _ _ _ | exact c110 _ _ _ _ | exact c117 _ _ _ _ | exact c125 _ _ _ _ | exact c136 _ _ _ _ | exact c147 _ _ _ _))) | omega | exact ent (by kernel_rfl) | (intro hgd; exact absurd hgd (by decide)) | rfl | (simp only [go_sem, reduceIte, reduceCtorEq, zA, zM, zE, zL, zD, zS, zP, zB, zI, zR, hlj, hlm]; done) | (intro _hgd; simp_all [go_sem]; done)
        -- ret 4
        rw [← hQr]
        refine AW.rt trivial ?_
        exact Wk.of_eq (by simp [hlj, hlm])
theorem law_laws (rs : List USet) (hl : longR rs) (hok : ∀ x ∈ rs, okW x.W) (i j k : Int) : Reads Tryz.prog 8 false [relV rs, .int .i64 i, .int .i64 j, .int .i64 k] (.bool true) := by
  cases hf : greatB rs
  · rcases rel_cases rs hok with ⟨t, ht, hs, hn, hp⟩ | hb
    · have hil := islat_g _ t hs hn hp
      cases hlb : latB t rs.length
      · rw [hlb, relB_SB, ← ht] at hil
        exact laws_0 rs hl i j k (.inr ⟨hf, hil⟩)
      · rw [show relV rs = relB t by rw [relB_SB, ← ht]]
        have hf' : greatB (t.map SB) = false := by rw [← ht]; exact hf
        by_cases ho : 0 ≤ i ∧ i < rs.length ∧ 0 ≤ j ∧ j < rs.length ∧ 0 ≤ k ∧ k < rs.length
        · have := laws_g _ t hs hn hp hf' hlb i.toNat j.toNat k.toNat (by omega) (by omega) (by omega)
          rw [Int.toNat_of_nonneg ho.1, Int.toNat_of_nonneg ho.2.2.1, Int.toNat_of_nonneg ho.2.2.2.2.1] at this
          exact this
        · rw [hlb] at hil
          exact laws_o _ t hs hn hf' hil i j k ho
    · have hl1 := hl.1
      have hil := islat_e _ .any .any (tables_e (rs.map rowV) (by simpa using hl1) false (rval_bad rs hl hb).1 (by simp))
      exact laws_0 rs hl i j k (.inr ⟨hf, hil⟩)
  · exact laws_0 rs hl i j k (.inl hf)
end Go.Proofs.B

/- The shapes of arguments. -/
namespace Go.AM
theorem fit_int {P : Program} {t : TypeId} {k : IntKind} (hu : P.underlying t = some (.int k)) {f : Nat} {x : List AV} (h : Fit P f t x) : ∃ n, x = [.int k n] ∧ k.min ≤ n ∧ n ≤ k.max := by
  cases f with
  | zero => exact h.elim
  | succ f => unfold Fit at h; rw [hu] at h; exact h
theorem fit_slice {P : Program} {t e : TypeId} {m : Nat} (hu : P.underlying t = some (.slice e)) (hm : P.cellsOf e = m) (h0 : m ≠ 0) {f : Nat} {x : List AV} (h : Fit P f t x) : ∃ es f', x = [.rsl m es] ∧ es.length ≤ maxLen ∧ ∀ y ∈ es, Fit P f' e y := by
  cases f with
  | zero => exact h.elim
  | succ f =>
    unfold Fit at h; rw [hu] at h
    rcases h with h | ⟨es, h1, h2, h3⟩
    · exact absurd (hm ▸ h) h0
    · rw [hm] at h1; exact ⟨es, f, h1, h2, fun y hy => (h3 y hy).2⟩
theorem fit_struct {P : Program} {t : TypeId} {fs : Array Field} (hu : P.underlying t = some (.struct fs)) {f : Nat} {x : List AV} (h : Fit P f t x) : ∃ f' parts, x = List.flatten parts ∧ F2 (fun (fl : Field) p => Fit P f' fl.type p) fs.toList parts := by
  cases f with
  | zero => exact h.elim
  | succ f =>
    unfold Fit at h; rw [hu] at h
    obtain ⟨parts, h1, h2⟩ := h
    exact ⟨f, parts, h1, forall2_imp (fun _ _ h => h.2) h2⟩
theorem F2.two {α β : Type} {R : α → β → Prop} {a b : α} {l : List β} (h : F2 R [a, b] l) : ∃ x y, l = [x, y] ∧ R a x ∧ R b y := by
  cases h with | cons h1 t => cases t with | cons h2 t => cases t with | nil => exact ⟨_, _, rfl, h1, h2⟩
theorem F2.four {α β : Type} {R : α → β → Prop} {a b c d : α} {l : List β} (h : F2 R [a, b, c, d] l) : ∃ x y z u, l = [x, y, z, u] ∧ R a x ∧ R b y ∧ R c z ∧ R d u := by
  cases h with | cons h1 t => cases t with | cons h2 t => cases t with | cons h3 t => cases t with | cons h4 t => cases t with | nil => exact ⟨_, _, _, _, rfl, h1, h2, h3, h4⟩
theorem exists_mapP {α β : Type} {f : α → β} {p : α → Prop} : ∀ {l : List β}, (∀ x ∈ l, ∃ a, x = f a ∧ p a) → ∃ m : List α, l = m.map f ∧ ∀ a ∈ m, p a
  | [], _ => ⟨[], rfl, fun _ h => by cases h⟩
  | x :: l, h => by
    obtain ⟨a, rfl, ha⟩ := h x (List.mem_cons_self ..)
    obtain ⟨m, rfl, hm⟩ := exists_mapP fun y hy => h y (List.mem_cons_of_mem _ hy)
    exact ⟨a :: m, rfl, fun b hb => by rcases List.mem_cons.1 hb with rfl | hb; exact ha; exact hm b hb⟩
theorem okW_of {W : List Int} (h : ∀ w ∈ W, 0 ≤ w ∧ w ≤ 18446744073709551615) : okW W := fun i => by
  by_cases hi : i < W.length
  · have := h _ (mem_getD hi 0); omega
  · rw [List.getD_eq_getElem?_getD, List.getElem?_eq_none (by omega)]; simp
end Go.AM

/- A laid table, as the machine's package variable. -/
namespace Go.AM
theorem rptr_of_laid {P : Program} {n : String} {g : Nat} {t e : TypeId} {k : IntKind} {L : List Int} {W : World} (hg : P.globalNamed n = some g) (ht : (P.globals[g]?).map (·.type) = some t) (hu : P.underlying t = some (.array L.length e))
    (hc : P.cellsOf e = 1) (hc2 : P.cellsOf t = L.length) (hu2 : P.underlying e = some (.int k)) (hL : L ≠ []) (h : laidMet P [(n, .agg (L.map fun i => .lit (.int k i)))] W) : RelP (immF W fun _ => False) W (.rptr (L.map (AV.int k))) (.pointer (some ⟨g, 0, none⟩)) := by
  obtain ⟨ps, ⟨g0, t0, cs0, f0, p0, q0, hg0, ht0, hv0, hd0, _, _⟩, _, _⟩ := h
  obtain rfl := Option.some.inj (hg.symm.trans hg0)
  obtain rfl := Option.some.inj (ht.symm.trans ht0)
  obtain ⟨xs, m, rfl, hx, hlen, hn, hel⟩ := DataW.trod_array hu hd0
  have hcell : ∀ j, j < L.length → W.cell? ⟨g, j, none⟩ = some (.int k (L.getD j 0)) := fun j hj => by
    have h0 := hel j hj
    rw [hc, Nat.mul_one] at h0
    have hjx : j < xs.length := by omega
    rw [List.getElem?_eq_getElem hjx] at h0
    obtain ⟨z, e1, e2, _⟩ := DataW.trod_int hu2 h0
    have hxs : xs.map (·.1) = L.map fun i => .lit (.int k i) := by
      simp only [Prod.mk.injEq, DataW.agg.injEq] at hx
      exact hx.1.symm
    have hzj : (xs.map (·.1))[j]? = (L.map fun i => (.lit (.int k i) : DataW Unit))[j]? := by rw [hxs]
    rw [List.getElem?_map, List.getElem?_map, List.getElem?_eq_getElem hjx, List.getElem?_eq_getElem hj, e2] at hzj
    simp only [Option.map_some, Option.some.injEq, DataW.lit.injEq, Lit.int.injEq] at hzj
    have hz : z = L.getD j 0 := by rw [hzj.2]; simp [List.getD_eq_getElem?_getD, hj]
    have hcs : cs0[j]? = some (.int k z) := by
      have hl : cs0.toList.length = L.length := by rw [hlen, hc2]
      have hd : cs0.toList.drop j = cs0.toList[j]'(by omega) :: cs0.toList.drop (j + 1) := List.drop_eq_getElem_cons (by omega)
      rw [hd] at e1
      simp only [List.take_succ_cons, List.take_zero, List.cons.injEq, and_true] at e1
      rw [← Array.getElem?_toList, List.getElem?_eq_getElem (by omega), e1]
    rw [World.var?_cell hg hv0 j, hcs, hz]
  have hlt : g < W.heap.size := by
    cases L with
    | nil => exact absurd rfl hL
    | cons a l =>
      have := hcell 0 (by simp)
      unfold World.cell? at this
      cases hh : W.heap[g]? with
      | none => simp [hh] at this
      | some o => exact heap_lt hh
  refine .rptr _ g 0 (fun j => .int k (L.getD j 0)) ⟨hlt, fun h => h⟩ (fun j hj => ?_) (fun j hj => ?_)
  · rw [List.length_map] at hj
    rw [Nat.zero_add]
    exact hcell j hj
  · rw [List.length_map] at hj
    have e : (L.map (AV.int k)).getD j .any = .int k (L.getD j 0) := by simp [List.getD_eq_getElem?_getD, hj]
    rw [e]
    exact .int _ _
end Go.AM

/- The shapes of the birkhoff laws' arguments. -/
namespace Go.AM
open Go.Proofs
theorem fit_words {f : Nat} {x : List AV} (h : Fit Tryz.prog f 39 x) : ∃ W : List Int, x = [.rsl 1 (words W)] ∧ W.length ≤ 9223372036854775807 ∧ okW W := by
  obtain ⟨es, f2, rfl, h5, h6⟩ := fit_slice (m := 1) Tryz.underlying39 (by kernel_rfl) (by decide) h
  obtain ⟨ws, rfl, hw⟩ := exists_mapP (f := fun x : Int => [AV.int .u64 x]) (p := fun w => 0 ≤ w ∧ w ≤ 18446744073709551615) fun y hy => by
    obtain ⟨n, e, h1, h2⟩ := fit_int Tryz.underlying45 (h6 y hy)
    exact ⟨n, e, by simpa [IntKind.min, IntKind.signed] using h1, by simpa [IntKind.max, IntKind.signed, IntKind.bits] using h2⟩
  exact ⟨ws, rfl, by simpa [maxLen] using h5, okW_of hw⟩
theorem fit_set {f : Nat} {x : List AV} (h : Fit Tryz.prog f 41 x) : ∃ y : USet, x = rowV y ∧ y.W.length ≤ 9223372036854775807 ∧ okW y.W := by
  obtain ⟨f', parts, rfl, h2⟩ := fit_struct Tryz.underlying41 h
  obtain ⟨a, b, rfl, h3, h4⟩ := F2.two h2
  obtain ⟨i, rfl, _⟩ := fit_int Tryz.underlying3 h3
  obtain ⟨W, rfl, h5, h6⟩ := fit_words h4
  exact ⟨⟨i, W⟩, rfl, h5, h6⟩
theorem F2.one {α β : Type} {R : α → β → Prop} {a : α} {l : List β} (h : F2 R [a] l) : ∃ x, l = [x] ∧ R a x := by
  cases h with | cons h1 t => cases t with | nil => exact ⟨_, rfl, h1⟩
theorem fit_rel {f : Nat} {x : List AV} (h : Fit Tryz.prog f 24 x) : ∃ rs : List USet, x = [.rsl 2 (rs.map rowV)] ∧ (rs.length ≤ 9223372036854775807 ∧ ∀ y ∈ rs, y.W.length ≤ 9223372036854775807) ∧ ∀ y ∈ rs, okW y.W := by
  obtain ⟨f', parts, rfl, h2⟩ := fit_struct Tryz.underlying24 h
  obtain ⟨a, rfl, h3⟩ := F2.one h2
  obtain ⟨es, f2, rfl, h5, h6⟩ := fit_slice (m := 2) Tryz.underlying22 (by kernel_rfl) (by decide) h3
  obtain ⟨rs, rfl, hr⟩ := exists_mapP (f := rowV) (p := fun y => y.W.length ≤ 9223372036854775807 ∧ okW y.W) fun y hy => fit_set (h6 y hy)
  exact ⟨rs, rfl, ⟨by simpa [maxLen] using h5, fun y hy => (hr y hy).1⟩, fun y hy => (hr y hy).2⟩
theorem laidMet_tail {P : Program} {W : World} {x : String × DataW Unit} {l : List (String × DataW Unit)} (h : laidMet P (x :: l) W) : laidMet P l W := by
  obtain ⟨ps, ⟨g, t, cs, f, p, q, hg, ht, hv, hd, hr, rfl⟩, hn, hc⟩ := h
  exact ⟨q, hr, (List.nodup_append.1 hn).2.1, fun b off hm => hc b off (List.mem_append.2 (.inr hm))⟩
theorem laidMet_head {P : Program} {W : World} {x : String × DataW Unit} {l : List (String × DataW Unit)} (h : laidMet P (x :: l) W) : laidMet P [x] W := by
  obtain ⟨ps, ⟨g, t, cs, f, p, q, hg, ht, hv, hd, hr, rfl⟩, hn, hc⟩ := h
  refine ⟨MemPlace.row ⟨g, 0, none⟩ cs.size ++ p ++ [], ⟨g, t, cs, f, p, [], hg, ht, hv, hd, rfl, rfl⟩, ?_, fun b off hm => ?_⟩
  · rw [List.append_nil]; exact (List.nodup_append.1 hn).1
  · rw [List.append_nil] at hm; exact hc b off (List.mem_append.2 (.inl hm))
theorem pgl {W : World} (h : laidMetH Tryz.prog [("math/bits.deBruijn32tab", YtppocnbagombeaaGreatDoor.Rows.laid_math_bits_deBruijn32tab), ("math/bits.deBruijn64tab", YtppocnbagombeaaGreatDoor.Rows.laid_math_bits_deBruijn64tab), ("internal/strconv.uint64pow10", YtppocnbagombeaaGreatDoor.Rows.laid_internal_strconv_uint64pow10)] W) : GL (immF W fun _ => False) W := fun g cs e => by
  rw [MakeChecks.laidMetH_plain _ _ _ (by rfl)] at h
  have h2 := laidMet_head (laidMet_tail h)
  cases g with
  | zero =>
    rw [globA_aux] at e
    obtain rfl := Option.some.inj e
    exact rptr_of_laid (L := tzTab) (by kernel_rfl : Tryz.prog.globalNamed "math/bits.deBruijn64tab" = some 0) (by kernel_rfl : (Tryz.prog.globals[0]?).map (·.type) = some 136) (e := 5) Tryz.underlying136 (by kernel_rfl) (by kernel_rfl) Tryz.underlying5 (by decide) h2
  | succ g => cases e
theorem pmet (os : Os) (args : Array Value) : laidMetH Tryz.prog [("math/bits.deBruijn32tab", YtppocnbagombeaaGreatDoor.Rows.laid_math_bits_deBruijn32tab), ("math/bits.deBruijn64tab", YtppocnbagombeaaGreatDoor.Rows.laid_math_bits_deBruijn64tab), ("internal/strconv.uint64pow10", YtppocnbagombeaaGreatDoor.Rows.laid_internal_strconv_uint64pow10)] ((World.doorLaid Tryz.prog 400 os).forCall (fun _ _ => 0) ⟨#[], args, []⟩).memory :=
  laidMetH_of_parts3 (fuel := 8) (laidMet_of_run' 8 (by kernel_rfl) (by kernel_rfl)) (by kernel_rfl) (by kernel_rfl)
end Go.AM

