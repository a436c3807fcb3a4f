/- Lemmas and contracts, part 8: an abstract machine over the model, and the functions that the statement reaches. -/
import Derived.Test.YtppocnbagombeaaGreatDoorBirkhoffMapsP7
import Derived.MakeChecks
import Derived.LaidMore
import Derived.Test.YtppocnbagombeaaGreatDoorRows
set_option linter.unusedVariables false
set_option linter.unusedSimpArgs false
open Nat renaming reduceAdd → zA, reduceMul → zM, reduceEqDiff → zE, reduceLT → zL, reduceLeDiff → zD, reduceSub → zS, reducePow → zP, reduceBEq → zB
open Int renaming reduceToNat → zI
open List renaming reduceReplicate → zR
namespace Go.Proofs.B
open Go.AM Go
set_option maxRecDepth 100000
set_option maxHeartbeats 4000000
theorem clone_ne (l : List Int) (hl : l.length ≤ 100000) (hne : l ≠ []) :
    Upd Tryz.prog 97 [] [.rsl 1 (ints l)] (fun k => .sl ⟨0, k, none⟩ 0 l.length none) (fun k => [(0, some ⟨k, k, 1, ints l⟩)]) := by
  have hine : ints l ≠ [] := by cases l with | nil => exact absurd rfl hne | cons a l => simp [ints]
  refine Upd.of_body (rs := [.tmp 2]) Tryz.func97 rfl Tryz.ntmps97 rfl (by simp) ?_
  intro k0 k hk0 hk1
  generalize hQr : retQ _ _ _ = Qr
  refine AW.so 100 (fun _ => none) [0] [] (@ints_len) ?_
  refine AW.seq fun K1 hK1 => ?_
  refine AW.so 100 (fun _ => none) [0,4] [] (@ints_len) ?_
  repeat with_reducible refine cj ?_ ?_
  all_goals try first | (exact hine) | omega
  refine AW.cn ?_ ?_
  · intro hb
    exfalso; simp at hb
  · intro hb
    refine AW.skip ?_
    refine hK1 _ _ _ ?_; clear hK1
    refine AW.so 100 (fun _ => none) [2] [107] (@ints_len) ?_
    rw [← hQr]
    refine AW.rt (@ints_len) ?_
    refine ⟨[(107, 0, true)], ?_⟩
    simp only [go_sem, reduceIte, zE, renC_ints]
theorem clone_nil :
    Upd Tryz.prog 97 [] [.rsl 1 []] (fun k => .sl ⟨0, k, none⟩ 0 0 none) (fun k => [(0, some ⟨k, k, 1, []⟩)]) := by
  refine Upd.of_body (rs := [.tmp 2]) Tryz.func97 rfl Tryz.ntmps97 rfl (by simp) ?_
  intro k0 k hk0 hk1
  generalize hQr : retQ _ _ _ = Qr
  refine AW.so 100 (fun _ => none) [0] [] trivial ?_
  refine AW.seq fun K1 hK1 => ?_
  refine AW.seq fun K2 hK2 => ?_
  refine AW.regionNil (l := [_]) 100 (fun _ => none) (by decide) (by rw [slD34]; rfl) ?_
  simp only [go_sem, reduceIte, zE]
  refine ⟨by decide, ⟨_, rfl⟩, fun b => ?_⟩
  try simp only [go_sem, reduceIte, reduceCtorEq, zA, zM, zE, zL, zD, zS, zP, zB, zI, zR]
  refine hK2 _ _ _ ?_; clear hK2
  refine AW.cn ?_ ?_
  · intro hb
    refine AW.so 100 (fun _ => none) [2] [] trivial ?_
    refine AW.nilOwn 2 107 1 rfl ?_
    simp only [go_sem, reduceIte, zE]
    rw [← hQr]
    refine AW.rt trivial ?_
    refine ⟨[(107, 0, true)], ?_⟩
    simp only [go_sem, reduceIte, zE, renC_ints]
  · intro hb
    refine AW.skip ?_
    refine hK1 _ _ _ ?_; clear hK1
    refine AW.seq fun K3 hK3 => ?_
    refine AW.regionK 100 (fun _ => none) [2] [107] ?_
    simp only [go_sem, reduceIte, reduceCtorEq, zA, zM, zE, zL, zD, zS, zP, zB, zI, zR]
    repeat with_reducible refine cj ?_ ?_
    all_goals try first | omega | (simp [scP, scalar]; done) | exact scP_words _ | exact scP_ints _ | exact scP_bools _
    refine hK3 _ _ _ ?_; clear hK3
    refine AW.ret ?_
    rw [← hQr]
    simp only [go_sem, reduceIte, reduceCtorEq, zA, zM, zE, zL, zD, zS, zP, zB, zI, zR]
    refine ⟨[(107, 0, true)], ?_⟩
    simp only [go_sem, reduceIte, zE, renC_ints]
theorem clone_u (l : List Int) (hl : l.length ≤ 100000) :
    Upd Tryz.prog 97 [] [.rsl 1 (ints l)] (fun k => .sl ⟨0, k, none⟩ 0 l.length none) (fun k => [(0, some ⟨k, k, 1, ints l⟩)]) := by
  by_cases h : l = []
  · subst h; exact clone_nil
  · exact clone_ne l hl h
theorem degrees_r (n : Nat) (t : List (List Bool)) (hs : Sq n t) (hn : n ≤ 512) (i : Nat) (hi : i < n) : Reads Tryz.prog 96 false [relB t, .int .i64 (i : Nat)] (.agg [.int .i64 (cU t i n : Nat), .int .i64 (cD t i n : Nat)]) := by
  have hlt : (tabR t).length = n := by rw [tabR_len, hs.len]
  have hsl := hs.len
  have hgr := fun x hx => tabR_get (t := t) (i := x) hx
  have hh : ∀ a c, a < n → c < n → Reads Tryz.prog 90 false [.agg (rowB (rowT t a)), .int .i64 (c : Nat)] (.bool (atT t a c)) := fun a c ha hc => by
    have hr := hs.rowLen ha
    exact rowN_r (rowT t a) (by omega) c (by omega)
  unfold relB rowB at *
  refine Reads.body (rs := [.cell 4 78]) Tryz.func96 rfl Tryz.ntmps96 rfl (by simp) ?_
  generalize hQr : retQ _ _ _ = Qr
  refine AW.sg [1,2,4] [2,4] (@hlt) ?_
  refine AW.sg [1,2,4,5] [2,4,5] (@hlt) ?_
  refine AW.seq fun K1 hK1 => ?_
  refine AW.sg [1,2,4,5,9,10] [2,4,5] (@hlt) ?_
  refine AW.block ?_
  refine AW.loopE (fun mm ee ss kk => ∃ (j g2 v2 g4 v4 g5 v5 : Nat), n - j = mm ∧ ee = [(1, .int .i64 (i : Nat)), (2, .ptr ⟨2, g2, none⟩ 0 0), (4, .ptr ⟨4, g4, none⟩ 0 0), (5, .ptr ⟨5, g5, none⟩ 0 0), (9, .int .i64 n), (10, .int .i64 (j : Nat))] ∧ ss = [(2, some ⟨g2, v2, 1, [[.rsl 2 (tabR t)]]⟩), (4, some ⟨g4, v4, 2, [[.int .i64 0, .int .i64 0]]⟩), (5, some ⟨g5, v5, 2, [[.int .i64 (cU t i j : Nat), .int .i64 (cD t i j : Nat)]]⟩)] ∧ (j ≤ n)) ?_ ?_
  · exact ⟨_, 0, _, _, _, _, _, _, rfl, eD, eD, eT⟩
  rintro mm ee ss kk ⟨j, g2, v2, g4, v4, g5, v5, rfl, rfl, rfl, hI⟩
  generalize hQl1 : thenQ _ _ = Ql1
  refine AW.sg [1,2,4,5,9,10,11] [2,4,5] (@hlt) ?_
  refine AW.seq fun K2 hK2 => ?_
  refine AW.cn ?_ ?_
  · intro hb
    have hjn : j < n := by omega
    have h1 := hh i j hi hjn
    have h2 := hh j i hjn hi
    have hu := cU_succ t i j
    have hd := cD_succ t i j
    have hcu := cU_le t i j
    have hcd := cD_le t i j
    have hgi := hgr i (by omega)
    have hgj := hgr j (by omega)
    refine AW.skip ?_
    refine hK2 _ _ _ ?_; clear hK2
    refine AW.seq fun K3 hK3 => ?_
    refine AW.block ?_
    refine AW.sg [1,2,4,5,6,9,10] [2,4,5] (@hlt) ?_
    refine AW.seq fun K4 hK4 => ?_
    refine AW.so 0 (fun ii => if ii = 6 then some (.reads false (.bool (atT t i j))) else none) [1,2,4,5,6,9,10,19] [2,4,5] (e3 @hlt @hgi @hsl) ?_
    repeat with_reducible refine cj ?_ ?_
    all_goals try first | (exact h1) | omega | exact ent (by kernel_rfl)
    refine AW.cn ?_ ?_
    · intro hb
      rw [hb, if_pos rfl] at hu
      refine AW.rg [1,2,4,5,6,9,10] [2,4,5] (@hlt) ?_
      refine hK4 _ _ _ ?_; clear hK4
      refine AW.so 0 (fun ii => if ii = 6 then some (.reads false (.bool (atT t j i))) else none) [1,2,4,5,9,10,30] [2,4,5] (e3 @hlt @hgj @hsl) ?_
      repeat with_reducible refine cj ?_ ?_
      all_goals try first | (exact h2) | omega | exact ent (by kernel_rfl)
      refine AW.cn ?_ ?_
      · intro hb
        rw [hb, if_pos rfl] at hd
        refine AW.rg [1,2,4,5,9,10] [2,4,5] (@hlt) ?_
        refine hK3 _ _ _ ?_; clear hK3
        refine AW.rg [1,2,4,5,9,10] [2,4,5] (@hlt) ?_
        rw [← hQl1]; change Exists _
        refine ⟨_, ?hm, j + 1, ?_, ?_, ?_, ?_, ?_, ?_, rfl, ?henv, ?hstore, ?hst⟩
        case henv =>
          repeat' (first | rfl | apply env_cons | apply st_cons | apply int_eq | apply bool_eq | apply rsl_eq | apply osl_eq | apply sl_eq | apply ptr_eq | apply agg_eq | apply es_cons | apply row_cons)
          all_goals (first | (simp; done) | omega | (simp; omega))
        case hstore =>
          repeat' (first | rfl | apply env_cons | apply st_cons | apply int_eq | apply bool_eq | apply rsl_eq | apply osl_eq | apply sl_eq | apply ptr_eq | apply agg_eq | apply es_cons | apply row_cons)
          all_goals (first | (rw [hu, hd]; done) | (simp [hu, hd]; done))
        case hst =>
          first | trivial | omega | (simp; done) | (simp; omega)
        case hm => omega
      · intro hb
        rw [if_neg (by rw [hb]; simp), Int.add_zero] at hd
        refine AW.skip ?_
        refine hK3 _ _ _ ?_; clear hK3
        refine AW.rg [1,2,4,5,9,10] [2,4,5] (@hlt) ?_
        rw [← hQl1]; change Exists _
        refine ⟨_, ?hm, j + 1, ?_, ?_, ?_, ?_, ?_, ?_, rfl, ?henv, ?hstore, ?hst⟩
        case henv =>
          repeat' (first | rfl | apply env_cons | apply st_cons | apply int_eq | apply bool_eq | apply rsl_eq | apply osl_eq | apply sl_eq | apply ptr_eq | apply agg_eq | apply es_cons | apply row_cons)
          all_goals (first | (simp; done) | omega | (simp; omega))
        case hstore =>
          repeat' (first | rfl | apply env_cons | apply st_cons | apply int_eq | apply bool_eq | apply rsl_eq | apply osl_eq | apply sl_eq | apply ptr_eq | apply agg_eq | apply es_cons | apply row_cons)
          all_goals (first | (rw [hu, hd]; done) | (simp [hu, hd]; done))
        case hst =>
          first | trivial | omega | (simp; done) | (simp; omega)
        case hm => omega
    · intro hb
      rw [if_neg (by rw [hb]; simp), Int.add_zero] at hu
      refine AW.skip ?_
      refine hK4 _ _ _ ?_; clear hK4
      refine AW.so 0 (fun ii => if ii = 6 then some (.reads false (.bool (atT t j i))) else none) [1,2,4,5,9,10,30] [2,4,5] (e3 @hlt @hgj @hsl) ?_
      repeat with_reducible refine cj ?_ ?_
      all_goals try first | (exact h2) | omega | exact ent (by kernel_rfl)
      refine AW.cn ?_ ?_
      · intro hb
        rw [hb, if_pos rfl] at hd
        refine AW.rg [1,2,4,5,9,10] [2,4,5] (@hlt) ?_
        refine hK3 _ _ _ ?_; clear hK3
        refine AW.rg [1,2,4,5,9,10] [2,4,5] (@hlt) ?_
        rw [← hQl1]; change Exists _
        refine ⟨_, ?hm, j + 1, ?_, ?_, ?_, ?_, ?_, ?_, rfl, ?henv, ?hstore, ?hst⟩
        case henv =>
          repeat' (first | rfl | apply env_cons | apply st_cons | apply int_eq | apply bool_eq | apply rsl_eq | apply osl_eq | apply sl_eq | apply ptr_eq | apply agg_eq | apply es_cons | apply row_cons)
          all_goals (first | (simp; done) | omega | (simp; omega))
        case hstore =>
          repeat' (first | rfl | apply env_cons | apply st_cons | apply int_eq | apply bool_eq | apply rsl_eq | apply osl_eq | apply sl_eq | apply ptr_eq | apply agg_eq | apply es_cons | apply row_cons)
          all_goals (first | (rw [hu, hd]; done) | (simp [hu, hd]; done))
        case hst =>
          first | trivial | omega | (simp; done) | (simp; omega)
        case hm => omega
      · intro hb
        rw [if_neg (by rw [hb]; simp), Int.add_zero] at hd
        refine AW.skip ?_
        refine hK3 _ _ _ ?_; clear hK3
        refine AW.rg [1,2,4,5,9,10] [2,4,5] (@hlt) ?_
        rw [← hQl1]; change Exists _
        refine ⟨_, ?hm, j + 1, ?_, ?_, ?_, ?_, ?_, ?_, rfl, ?henv, ?hstore, ?hst⟩
        case henv =>
          repeat' (first | rfl | apply env_cons | apply st_cons | apply int_eq | apply bool_eq | apply rsl_eq | apply osl_eq | apply sl_eq | apply ptr_eq | apply agg_eq | apply es_cons | apply row_cons)
          all_goals (first | (simp; done) | omega | (simp; omega))
        case hstore =>
          repeat' (first | rfl | apply env_cons | apply st_cons | apply int_eq | apply bool_eq | apply rsl_eq | apply osl_eq | apply sl_eq | apply ptr_eq | apply agg_eq | apply es_cons | apply row_cons)
          all_goals (first | (rw [hu, hd]; done) | (simp [hu, hd]; done))
        case hst =>
          first | trivial | omega | (simp; done) | (simp; omega)
        case hm => omega
  · intro hb
    have hj : j = n := by omega
    subst hj
    refine AW.kx [4,5] [4,5] ?_
    rw [← hQl1]
    refine hK1 _ _ _ ?_; clear hK1
    refine AW.sg [4] [4] (@hlt) ?_
    rw [← hQr]
    refine AW.rt (@hlt) ?_
    exact Wk.refl _
theorem degree_r (n : Nat) (t : List (List Bool)) (hs : Sq n t) (hn : n ≤ 512) (i : Nat) (hi : i < n) : Reads Tryz.prog 98 false [.rsl 1 (rowsR t), .int .i64 (i : Nat)] (.agg [.int .i64 (cD t i n : Nat), .int .i64 (cU t i n : Nat)]) := by
  have hrl := rowsR_len t
  have hsl := hs.len
  have hgr := fun x hx => rowsR_get (t := t) (i := x) hx
  have hgb : ∀ a c, a < n → c < n → (bools (rowT t a)).getD c [] = [.bool (atT t a c)] := fun a c ha hc => bools_getD (l := rowT t a) (i := c) (by rw [hs.rowLen ha]; exact hc)
  have hbl : ∀ a, a < n → (bools (rowT t a)).length = n := fun a ha => by rw [bools_len, hs.rowLen ha]
  refine Reads.body (rs := [.cell 4 78]) Tryz.func98 rfl Tryz.ntmps98 rfl (by simp) ?_
  generalize hQr : retQ _ _ _ = Qr
  refine AW.sg [0,1,4] [4] (e2 @hrl @hsl) ?_
  refine AW.sg [0,1,4,5] [4,5] (e2 @hrl @hsl) ?_
  refine AW.seq fun K1 hK1 => ?_
  refine AW.sg [0,1,4,5,6] [4,5] (e2 @hrl @hsl) ?_
  refine AW.block ?_
  refine AW.loopE (fun mm ee ss kk => ∃ (j g4 v4 g5 v5 : Nat), n - j = mm ∧ ee = [(0, .rsl 1 (rowsR t)), (1, .int .i64 (i : Nat)), (4, .ptr ⟨4, g4, none⟩ 0 0), (5, .ptr ⟨5, g5, none⟩ 0 0), (6, .int .i64 (j : Nat))] ∧ ss = [(4, some ⟨g4, v4, 2, [[.int .i64 0, .int .i64 0]]⟩), (5, some ⟨g5, v5, 2, [[.int .i64 (cD t i j : Nat), .int .i64 (cU t i j : Nat)]]⟩)] ∧ (j ≤ n)) ?_ ?_
  · exact ⟨_, 0, _, _, _, _, rfl, eD, eD, eT⟩
  rintro mm ee ss kk ⟨j, g4, v4, g5, v5, rfl, rfl, rfl, hI⟩
  generalize hQl1 : thenQ _ _ = Ql1
  refine AW.seq fun K2 hK2 => ?_
  refine AW.sg [0,1,4,5,6,10] [4,5] (e2 @hrl @hsl) ?_
  refine AW.cn ?_ ?_
  · intro hb
    have hjn : j < n := by omega
    have hu := cU_succ t i j
    have hd := cD_succ t i j
    have hcu := cU_le t i j
    have hcd := cD_le t i j
    have hgi := hgr i (by omega)
    have hgj := hgr j (by omega)
    have hbi := hbl i hi
    have hbj := hbl j hjn
    have hij := hgb i j hi hjn
    have hji := hgb j i hjn hi
    refine AW.skip ?_
    refine hK2 _ _ _ ?_; clear hK2
    refine AW.seq fun K3 hK3 => ?_
    refine AW.block ?_
    refine AW.seq fun K4 hK4 => ?_
    refine AW.sg [0,1,4,5,6,19] [4,5] (e5 @hrl @hsl @hgj @hji @hbj) ?_
    refine AW.cn ?_ ?_
    · intro hb
      rw [hb, if_pos rfl] at hd
      refine AW.rg [0,1,4,5,6] [4,5] (e2 @hrl @hsl) ?_
      refine hK4 _ _ _ ?_; clear hK4
      refine AW.sg [0,1,4,5,6,30] [4,5] (e5 @hrl @hsl @hgi @hij @hbi) ?_
      refine AW.cn ?_ ?_
      · intro hb
        rw [hb, if_pos rfl] at hu
        refine AW.rg [0,1,4,5,6] [4,5] (e2 @hrl @hsl) ?_
        refine hK3 _ _ _ ?_; clear hK3
        refine AW.rg [0,1,4,5,6] [4,5] (e2 @hrl @hsl) ?_
        rw [← hQl1]; change Exists _
        refine ⟨_, ?hm, j + 1, ?_, ?_, ?_, ?_, rfl, ?henv, ?hstore, ?hst⟩
        case henv =>
          repeat' (first | rfl | apply env_cons | apply st_cons | apply int_eq | apply bool_eq | apply rsl_eq | apply osl_eq | apply sl_eq | apply ptr_eq | apply agg_eq | apply es_cons | apply row_cons)
          all_goals (first | (simp; done) | omega | (simp; omega))
        case hstore =>
          repeat' (first | rfl | apply env_cons | apply st_cons | apply int_eq | apply bool_eq | apply rsl_eq | apply osl_eq | apply sl_eq | apply ptr_eq | apply agg_eq | apply es_cons | apply row_cons)
          all_goals (first | (rw [hu, hd]; done) | (simp [hu, hd]; done))
        case hst =>
          first | trivial | omega | (simp; done) | (simp; omega)
        case hm => omega
      · intro hb
        rw [if_neg (by rw [hb]; simp), Int.add_zero] at hu
        refine AW.skip ?_
        refine hK3 _ _ _ ?_; clear hK3
        refine AW.rg [0,1,4,5,6] [4,5] (e2 @hrl @hsl) ?_
        rw [← hQl1]; change Exists _
        refine ⟨_, ?hm, j + 1, ?_, ?_, ?_, ?_, rfl, ?henv, ?hstore, ?hst⟩
        case henv =>
          repeat' (first | rfl | apply env_cons | apply st_cons | apply int_eq | apply bool_eq | apply rsl_eq | apply osl_eq | apply sl_eq | apply ptr_eq | apply agg_eq | apply es_cons | apply row_cons)
          all_goals (first | (simp; done) | omega | (simp; omega))
        case hstore =>
          repeat' (first | rfl | apply env_cons | apply st_cons | apply int_eq | apply bool_eq | apply rsl_eq | apply osl_eq | apply sl_eq | apply ptr_eq | apply agg_eq | apply es_cons | apply row_cons)
          all_goals (first | (rw [hu, hd]; done) | (simp [hu, hd]; done))
        case hst =>
          first | trivial | omega | (simp; done) | (simp; omega)
        case hm => omega
    · intro hb
      rw [if_neg (by rw [hb]; simp), Int.add_zero] at hd
      refine AW.skip ?_
      refine hK4 _ _ _ ?_; clear hK4
      refine AW.sg [0,1,4,5,6,30] [4,5] (e5 @hrl @hsl @hgi @hij @hbi) ?_
      refine AW.cn ?_ ?_
      · intro hb
        rw [hb, if_pos rfl] at hu
        refine AW.rg [0,1,4,5,6] [4,5] (e2 @hrl @hsl) ?_
        refine hK3 _ _ _ ?_; clear hK3
        refine AW.rg [0,1,4,5,6] [4,5] (e2 @hrl @hsl) ?_
        rw [← hQl1]; change Exists _
        refine ⟨_, ?hm, j + 1, ?_, ?_, ?_, ?_, rfl, ?henv, ?hstore, ?hst⟩
        case henv =>
          repeat' (first | rfl | apply env_cons | apply st_cons | apply int_eq | apply bool_eq | apply rsl_eq | apply osl_eq | apply sl_eq | apply ptr_eq | apply agg_eq | apply es_cons | apply row_cons)
          all_goals (first | (simp; done) | omega | (simp; omega))
        case hstore =>
          repeat' (first | rfl | apply env_cons | apply st_cons | apply int_eq | apply bool_eq | apply rsl_eq | apply osl_eq | apply sl_eq | apply ptr_eq | apply agg_eq | apply es_cons | apply row_cons)
          all_goals (first | (rw [hu, hd]; done) | (simp [hu, hd]; done))
        case hst =>
          first | trivial | omega | (simp; done) | (simp; omega)
        case hm => omega
      · intro hb
        rw [if_neg (by rw [hb]; simp), Int.add_zero] at hu
        refine AW.skip ?_
        refine hK3 _ _ _ ?_; clear hK3
        refine AW.rg [0,1,4,5,6] [4,5] (e2 @hrl @hsl) ?_
        rw [← hQl1]; change Exists _
        refine ⟨_, ?hm, j + 1, ?_, ?_, ?_, ?_, rfl, ?henv, ?hstore, ?hst⟩
        case henv =>
          repeat' (first | rfl | apply env_cons | apply st_cons | apply int_eq | apply bool_eq | apply rsl_eq | apply osl_eq | apply sl_eq | apply ptr_eq | apply agg_eq | apply es_cons | apply row_cons)
          all_goals (first | (simp; done) | omega | (simp; omega))
        case hstore =>
          repeat' (first | rfl | apply env_cons | apply st_cons | apply int_eq | apply bool_eq | apply rsl_eq | apply osl_eq | apply sl_eq | apply ptr_eq | apply agg_eq | apply es_cons | apply row_cons)
          all_goals (first | (rw [hu, hd]; done) | (simp [hu, hd]; done))
        case hst =>
          first | trivial | omega | (simp; done) | (simp; omega)
        case hm => omega
  · intro hb
    have hj : j = n := by omega
    subst hj
    refine AW.kx [4,5] [4,5] ?_
    rw [← hQl1]
    refine hK1 _ _ _ ?_; clear hK1
    refine AW.sg [4] [4] (e2 @hrl @hsl) ?_
    rw [← hQr]
    refine AW.rt (e2 @hrl @hsl) ?_
    exact Wk.refl _
end Go.Proofs.B

namespace Go.Proofs.B
open Go.AM Go
set_option maxRecDepth 100000
set_option maxHeartbeats 4000000
def extV (o : Option (List Nat)) : AV := .tup [.rsl 1 (ints (nats (o.getD []))), .bool o.isSome]
theorem ext_0 (n : Nat) (p q : List (List Bool)) (hp : p.length = n) (f : List Nat) (hf : f.length = n) (hn : n ≤ 512) : Reads Tryz.prog 66 false [relB p, relB q, .rsl 1 (ints (nats f))] (extV (some f)) := by
  have hlp : (tabR p).length = n := by rw [tabR_len, hp]
  unfold relB at *
  refine Reads.body (rs := [.tmp 6, .tmp 7]) Tryz.func66 rfl Tryz.ntmps66 rfl (by simp) ?_
  generalize hQr : retQ _ _ _ = Qr
  refine AW.sg [2,3,4] [3,4] (e4 @hlp @ints_len @nats_len @hf) ?_
  refine AW.sg [2,3,4,8] [3,4] (e4 @hlp @ints_len @nats_len @hf) ?_
  refine AW.seq fun K1 hK1 => ?_
  refine AW.sg [2,3,4,8,21] [3,4] (e4 @hlp @ints_len @nats_len @hf) ?_
  refine AW.cn ?_ ?_
  · intro hb
    refine AW.sg [6,7] [] (e4 @hlp @ints_len @nats_len @hf) ?_
    rw [← hQr]
    refine AW.rt (e4 @hlp @ints_len @nats_len @hf) ?_
    exact Wk.refl _
  · intro hb
    exfalso; simp at hb
theorem ext_s (n m : Nat) (p q : List (List Bool)) (hsp : Sq n p) (hsq : Sq n q) (hn : n ≤ 512) (f : List Nat) (hf : f.length < n) (hfr : ∀ y ∈ f, y < n)
    (ih : ∀ x, x < n → Reads Tryz.prog 66 false [relB p, relB q, .rsl 1 (ints (nats (f ++ [x])))] (extV (extI p q n m (f ++ [x])))) :
    Reads Tryz.prog 66 false [relB p, relB q, .rsl 1 (ints (nats f))] (extV (extI p q n (m + 1) f)) := by
  have hlp : (tabR p).length = n := by rw [tabR_len, hsp.len]
  have hlq : (tabR q).length = n := by rw [tabR_len, hsq.len]
  have hlp' := hsp.len
  have hlq' := hsq.len
  have hfl : (nats f).length = f.length := nats_len f
  have hcl := clone_u (nats f) (by omega)
  rw [hfl] at hcl
  have hct := fun x : Nat => contains_r (nats f) x (by omega)
  have hcc : ∀ x : Nat, decide ((x : Int) ∈ nats f) = f.contains x := fun x => by
    rw [Bool.eq_iff_iff, decide_eq_true_eq, List.contains_iff_mem]
    unfold nats
    rw [List.mem_map]
    exact ⟨fun ⟨y, h1, h2⟩ => by rw [show x = y by omega]; exact h1, fun h => ⟨x, h, rfl⟩⟩
  have hgf : ∀ j, j < f.length → (ints (nats f)).getD j [] = [.int .i64 (f.getD j 0 : Nat)] := fun j hj => nats_getD hj
  have hfm : ∀ j, j < f.length → f.getD j 0 < n := fun j hj => hfr _ (mem_getD hj 0)
  have hdp := degrees_r n p hsp hn f.length hf
  have hdq := fun x hx => degrees_r n q hsq hn x hx
  have hgp := fun x hx => tabR_get (t := p) (i := x) hx
  have hgq := fun x hx => tabR_get (t := q) (i := x) hx
  have hhp : ∀ a c, a < n → c < n → Reads Tryz.prog 90 false [.agg (rowB (rowT p a)), .int .i64 (c : Nat)] (.bool (atT p a c)) := fun a c ha hc => by
    have hr := hsp.rowLen ha
    exact rowN_r (rowT p a) (by omega) c (by omega)
  have hhq : ∀ a c, a < n → c < n → Reads Tryz.prog 90 false [.agg (rowB (rowT q a)), .int .i64 (c : Nat)] (.bool (atT q a c)) := fun a c ha hc => by
    have hr := hsq.rowLen ha
    exact rowN_r (rowT q a) (by omega) c (by omega)
  have hup : ∀ x, x < n → ∀ g v, Upd Tryz.prog 66 [(0, some ⟨g, v, 1, ints (nats (f ++ [x]))⟩)] [relB p, relB q, .sl ⟨0, g, none⟩ 0 (f.length + 1) none] (fun _ => extV (extI p q n m (f ++ [x]))) (fun _ => []) := fun x hx g v => by
    have h := ih x hx
    have := h.updL (by simp [relB, vw_agg, vw_rsl]) (by simp [relB, vw_agg, vw_rsl]) (fun s => by simp [relB, vw_agg, vw_rsl]) (fun s => by simp [relB, vw_agg, vw_rsl]) g v (N := f.length + 1) (by simp [nats_len])
    exact this
  have hdb : ∀ x, degB p q n f.length x = (decide ((cU p f.length n : Int) = (cU q x n : Nat)) && decide ((cD p f.length n : Int) = (cD q x n : Nat))) := fun x => by
    unfold degB
    rw [show decide ((cU p f.length n : Int) = (cU q x n : Nat)) = decide (cU p f.length n = cU q x n) from decide_eq_decide.2 (by omega), show decide ((cD p f.length n : Int) = (cD q x n : Nat)) = decide (cD p f.length n = cD q x n) from decide_eq_decide.2 (by omega)]
  unfold relB rowB extV at *
  refine Reads.body (rs := [.tmp 6, .tmp 7]) Tryz.func66 rfl Tryz.ntmps66 rfl (by simp) ?_
  generalize hQr : retQ _ _ _ = Qr
  refine AW.sg [2,3,4] [3,4] trivial ?_
  refine AW.sg [2,3,4,8] [3,4] (e2 @ints_len @hfl) ?_
  refine AW.seq fun K1 hK1 => ?_
  refine AW.sg [2,3,4,8,21] [3,4] (@hlp) ?_
  refine AW.cn ?_ ?_
  · intro hb
    exfalso; omega
  · intro hb
    refine AW.skip ?_
    refine hK1 _ _ _ ?_; clear hK1
    refine AW.seq fun K2 hK2 => ?_
    refine AW.sg [2,3,4,8,25,26] [3,4] (@hlq) ?_
    refine AW.block ?_
    refine AW.loopE (fun mm ee ss kk => ∃ (x g3 v3 g4 v4 : Nat), n - x = mm ∧ ee = [(2, .rsl 1 (ints (nats f))), (3, .ptr ⟨3, g3, none⟩ 0 0), (4, .ptr ⟨4, g4, none⟩ 0 0), (8, .int .i64 f.length), (25, .int .i64 n), (26, .int .i64 (x : Nat))] ∧ ss = [(3, some ⟨g3, v3, 1, [[.rsl 2 (tabR p)]]⟩), (4, some ⟨g4, v4, 1, [[.rsl 2 (tabR q)]]⟩)] ∧ (x ≤ n ∧ extU p q n m f x = none)) ?_ ?_
    · exact ⟨_, 0, _, _, _, _, rfl, eD, eD, (⟨by omega, extU_zero ..⟩)⟩
    rintro mm ee ss kk ⟨x, g3, v3, g4, v4, rfl, rfl, rfl, hI⟩
    generalize hQl1 : thenQ _ _ = Ql1
    obtain ⟨hx0, hex⟩ := hI
    refine AW.sg [2,3,4,8,25,26,27] [3,4] trivial ?_
    refine AW.seq fun K3 hK3 => ?_
    refine AW.cn ?_ ?_
    · intro hb
      have hxn : x < n := by omega
      have hc1 := hct x
      rw [hcc x] at hc1
      have hd1 := hdq x hxn
      have hdbx := hdb x
      have hus := extU_succ p q n m f x hex
      have hst := fun g => extU_stop p q n m f x hxn hex (g := g)
      have hfb : fitB p q n f x = (!f.contains x && degB p q n f.length x && fitJ p q f f.length x f.length) := rfl
      have hup1 := hup x hxn
      have hap : ints (nats f) ++ [[.int .i64 (x : Nat)]] = ints (nats (f ++ [x])) := by rw [← nats_app]; simp [ints]
      have hft : List.take f.length (nats f) = nats f := List.take_of_length_le (by omega)
      refine AW.skip ?_
      refine hK3 _ _ _ ?_; clear hK3
      refine AW.seq fun K4 hK4 => ?_
      refine AW.block ?_
      refine AW.sg [2,3,4,8,9,25,26] [3,4] trivial ?_
      refine AW.seq fun K5 hK5 => ?_
      refine AW.sd mixed 0 (fun ii => if ii = 2 then some (.reads false (.bool (f.contains x))) else if ii = 6 then some (.reads false (.agg [.int .i64 (cU p f.length n : Nat), .int .i64 (cD p f.length n : Nat)])) else if ii = 9 then some (.reads false (.agg [.int .i64 (cU q x n : Nat), .int .i64 (cD q x n : Nat)])) else none) [2,3,4,8,9,25,26,40] [3,4] trivial ?_
      repeat with_reducible refine cj ?_ ?_
      all_goals try first | (first | exact hc1 | (intro hh; exact ⟨hh, hdp⟩) | (intro hh; exact ⟨hh, hd1⟩)) | (intros; (repeat' apply And.intro) <;> first | assumption | (first | exact hc1 | (intro hh; exact ⟨hh, hdp⟩) | (intro hh; exact ⟨hh, hd1⟩))) | omega | exact chk (by kernel_rfl) | exact ent (by kernel_rfl) | (intro hgd; exact absurd hgd (by decide)) | rfl | exact gD | (intro _hgd; simp_all [go_sem]; done)
      refine AW.cn ?_ ?_
      · intro hb
        have hf0 : fitB p q n f x = false := by rw [hfb, hdbx]; rcases hb with hb | hb | hb; (rw [hb]; rfl); (rw [decide_eq_false hb]; simp); (rw [decide_eq_false hb]; simp)
        rw [hf0, if_neg (by simp)] at hus
        refine AW.kx [2,3,4,8,25,26] [3,4] ?_
        refine hK4 _ _ _ ?_; clear hK4
        refine AW.rg [2,3,4,8,25,26] [3,4] trivial ?_
        rw [← hQl1]; change Exists _
        exact ⟨_, eO, x + 1, _, _, _, _, rfl, eD, eD, (⟨by omega, hus⟩)⟩
      · intro hb
        obtain ⟨hb1, hb2, hb3⟩ := hb
        have hfb2 : fitB p q n f x = fitJ p q f f.length x f.length := by rw [hfb, hdbx, hb1, decide_eq_true hb2, decide_eq_true hb3]; rfl
        clear hfb hdbx
        rw [hfb2] at hus hst
        refine AW.skip ?_
        refine hK5 _ _ _ ?_; clear hK5
        refine AW.sg [2,3,4,8,9,10,25,26] [3,4] trivial ?_
        refine AW.seq fun K6 hK6 => ?_
        refine AW.sg [2,3,4,8,9,10,25,26,41,42,43] [3,4] (e2 @ints_len @hfl) ?_
        refine AW.block ?_
        refine AW.loopE (fun mm ee ss kk => ∃ (j g3 v3 g4 v4 : Nat), f.length - j = mm ∧ ee = [(2, .rsl 1 (ints (nats f))), (3, .ptr ⟨3, g3, none⟩ 0 0), (4, .ptr ⟨4, g4, none⟩ 0 0), (8, .int .i64 f.length), (9, .int .i64 (x : Nat)), (10, .bool (fitJ p q f f.length x j)), (25, .int .i64 n), (26, .int .i64 (x : Nat)), (41, .rsl 1 (ints (nats f))), (42, .int .i64 f.length), (43, .int .i64 (j : Nat))] ∧ ss = [(3, some ⟨g3, v3, 1, [[.rsl 2 (tabR p)]]⟩), (4, some ⟨g4, v4, 1, [[.rsl 2 (tabR q)]]⟩)] ∧ (j ≤ f.length)) ?_ ?_
        · exact ⟨_, 0, _, _, _, _, rfl, eD, eD, eT⟩
        rintro mm ee ss kk ⟨j, g3, v3, g4, v4, rfl, rfl, rfl, hI⟩
        generalize hQl2 : thenQ _ _ = Ql2
        refine AW.sg [2,3,4,8,9,10,25,26,41,42,43,44] [3,4] trivial ?_
        refine AW.seq fun K7 hK7 => ?_
        refine AW.cn ?_ ?_
        · intro hb
          have hjf : j < f.length := by omega
          have hgj := hgf j hjf
          have hyn := hfm j hjf
          have hgpi := hgp f.length (by omega)
          have hgpj := hgp j (by omega)
          have hgqx := hgq x (by omega)
          have hgqy := hgq (f.getD j 0) (by omega)
          have k1 := hhp f.length j (by omega) (by omega)
          have k2 := hhq x (f.getD j 0) hxn hyn
          have k3 := hhp j f.length (by omega) (by omega)
          have k4 := hhq (f.getD j 0) x hyn hxn
          have has := fitJ_succ p q f f.length x j
          generalize f.getD j 0 = y at *
          refine AW.skip ?_
          refine hK7 _ _ _ ?_; clear hK7
          refine AW.seq fun K8 hK8 => ?_
          refine AW.block ?_
          refine AW.sg [2,3,4,8,9,10,11,12,25,26,41,42,43] [3,4] (e3 @hgj @ints_len @hfl) ?_
          refine AW.rd mixed 0 (fun ii => if ii = 8 then some (.reads false (.bool (atT p f.length j))) else if ii = 15 then some (.reads false (.bool (atT q x y))) else if ii = 25 then some (.reads false (.bool (atT p j f.length))) else if ii = 32 then some (.reads false (.bool (atT q y x))) else none) [2,3,4,8,9,10,25,26,41,42,43] [3,4] (e4 @hgpi @hgpj @hgqx (e5 @hgqy @hlp @hlq @hlp' @hlq')) ?_
          repeat with_reducible refine cj ?_ ?_
          all_goals try first | (first | (intro hh; exact ⟨hh, k1⟩) | (intro hh; exact ⟨hh, k2⟩) | (intro hh; exact ⟨hh, k3⟩) | (intro hh; exact ⟨hh, k4⟩) | omega | (intros; omega) | (intro hh; exact ⟨hh, by omega⟩)) | (intros; (repeat' apply And.intro) <;> first | assumption | (first | (intro hh; exact ⟨hh, k1⟩) | (intro hh; exact ⟨hh, k2⟩) | (intro hh; exact ⟨hh, k3⟩) | (intro hh; exact ⟨hh, k4⟩) | omega | (intros; omega) | (intro hh; exact ⟨hh, by omega⟩))) | omega | exact chk (by kernel_rfl) | exact ent (by kernel_rfl) | (intro hgd; exact absurd hgd (by decide)) | rfl | (simp only [go_sem, reduceIte, reduceCtorEq, zA, zM, zE, zL, zD, zS, zP, zB, zI, zR, hgpi, hgpj, hgqx, hgqy, hlp, hlq, hlp', hlq']; done) | (intro _hgd; simp_all [go_sem]; done)
          refine hK8 _ _ _ ?_; clear hK8
          refine AW.rg [2,3,4,8,9,10,25,26,41,42,43] [3,4] trivial ?_
          rw [← hQl2]; change Exists _
          refine ⟨_, ?hm, j + 1, ?_, ?_, ?_, ?_, rfl, ?henv, ?hstore, ?hst⟩
          case henv =>
            repeat' (first | rfl | apply env_cons | apply st_cons | apply int_eq | apply bool_eq | apply rsl_eq | apply osl_eq | apply sl_eq | apply ptr_eq | apply agg_eq | apply es_cons | apply row_cons)
            all_goals (first | (rw [has, ← Bool.and_assoc]; done) | (rw [has]; simp [Bool.and_assoc]; done) | (simp; done) | omega)
          case hstore =>
            repeat' (first | rfl | apply env_cons | apply st_cons | apply int_eq | apply bool_eq | apply rsl_eq | apply osl_eq | apply sl_eq | apply ptr_eq | apply agg_eq | apply es_cons | apply row_cons)
            all_goals (first | (simp; done) | omega | (simp; omega))
          case hst =>
            first | trivial | omega | (simp; done) | (simp; omega)
          case hm => omega
        · intro hb
          have hj : j = f.length := by omega
          subst hj
          refine AW.kx [2,3,4,8,9,10,25,26] [3,4] ?_
          rw [← hQl2]
          refine hK6 _ _ _ ?_; clear hK6
          refine AW.sg [2,3,4,8,9,25,26,84] [3,4] trivial ?_
          refine AW.cn ?_ ?_
          · intro hb
            have hb9 : fitJ p q f f.length x f.length = true := hb
            rw [hb9, if_pos rfl] at hus
            refine AW.sd mixed 0 (fun ii => if ii = 3 then some (.upd [] (fun k => [(0, some ⟨k, k, 1, ints (nats f)⟩)]) (fun k => .sl ⟨0, k, none⟩ 0 f.length none)) else if ii = 7 then some (.upd [89] (fun _ => []) (fun _ => .tup [.rsl 1 (ints (nats ((extI p q n m (f ++ [x])).getD []))), .bool (extI p q n m (f ++ [x])).isSome])) else none) [2,3,4,8,13,14,25,26] [3,4] (e5 @ints_len @hfl @hft @hap @renC_ints) ?_
            repeat with_reducible refine cj ?_ ?_
            all_goals try first | (first | exact hcl | exact hup1 _ _) | omega | exact chk (by kernel_rfl) | exact ent (by kernel_rfl) | (simp [scP, scalar]; done) | exact scP_words _ | exact scP_ints _ | exact scP_bools _
            refine AW.sg [2,3,4,8,13,25,26,96] [3,4] trivial ?_
            refine AW.cn ?_ ?_
            · intro hb
              obtain ⟨g, hg⟩ := Option.isSome_iff_exists.1 hb
              have hst2 := hst g hb9 hg
              refine AW.sg [6,7] [] trivial ?_
              rw [← hQl1, ← hQr]
              refine AW.rt trivial ?_
              rw [hst2, hg]; exact Wk.refl _
            · intro hb
              rw [show extI p q n m (f ++ [x]) = none from by simpa using hb] at hus
              refine AW.skip ?_
              refine hK4 _ _ _ ?_; clear hK4
              refine AW.rg [2,3,4,8,25,26] [3,4] trivial ?_
              rw [← hQl1]; change Exists _
              exact ⟨_, eO, x + 1, _, _, _, _, rfl, eD, eD, (⟨by omega, hus⟩)⟩
          · intro hb
            rw [if_neg (by rw [hb]; simp)] at hus
            refine AW.skip ?_
            refine hK4 _ _ _ ?_; clear hK4
            refine AW.rg [2,3,4,8,25,26] [3,4] trivial ?_
            rw [← hQl1]; change Exists _
            exact ⟨_, eO, x + 1, _, _, _, _, rfl, eD, eD, (⟨by omega, hus⟩)⟩
    · intro hb
      have hx : x = n := by omega
      subst hx
      refine AW.kx [] [] ?_
      rw [← hQl1]
      refine hK2 _ _ _ ?_; clear hK2
      refine AW.sg [6,7] [] trivial ?_
      rw [← hQr]
      refine AW.rt trivial ?_
      rw [← extU_end, hex]; exact Wk.tup2 (Wk.nil 1) (Wk.refl _)
end Go.Proofs.B

namespace Go.Proofs.B
open Go.AM Go
set_option maxRecDepth 100000
set_option maxHeartbeats 4000000
/-- What the reference's search answers: a list, or nil. -/
def rexV : Option (List Nat) → AV
  | none => .nilq true
  | some g => .rsl 1 (ints (nats g))
theorem rext_0 (n : Nat) (p q : List (List Bool)) (hp : p.length = n) (f : List Nat) (hf : f.length = n) : Reads Tryz.prog 67 false [.rsl 1 (rowsR p), .rsl 1 (rowsR q), .rsl 1 (ints (nats f))] (.rsl 1 (ints (nats f))) := by
  have hlp : (rowsR p).length = n := by rw [rowsR_len, hp]
  refine Reads.body (rs := [.tmp 6]) Tryz.func67 rfl Tryz.ntmps67 rfl (by simp) ?_
  generalize hQr : retQ _ _ _ = Qr
  refine AW.sg [0,1,2] [] (e4 @hlp @ints_len @nats_len @hf) ?_
  refine AW.sg [0,1,2,7] [] (e4 @hlp @ints_len @nats_len @hf) ?_
  refine AW.seq fun K1 hK1 => ?_
  refine AW.sg [0,1,2,7,17] [] (e4 @hlp @ints_len @nats_len @hf) ?_
  refine AW.cn ?_ ?_
  · intro hb
    refine AW.sg [6] [] (e4 @hlp @ints_len @nats_len @hf) ?_
    rw [← hQr]
    refine AW.rt (e4 @hlp @ints_len @nats_len @hf) ?_
    exact Wk.refl _
  · intro hb
    exfalso; simp at hb
theorem rext_n : Reads Tryz.prog 67 false [.rsl 1 [], .rsl 1 [], .nilq false] (.nilq false) := by
  refine Reads.body (rs := [.tmp 6]) Tryz.func67 rfl Tryz.ntmps67 rfl (by simp) ?_
  generalize hQr : retQ _ _ _ = Qr
  refine AW.sg [0,1,2] [] trivial ?_
  refine AW.sg [0,1,2,7] [] trivial ?_
  refine AW.seq fun K1 hK1 => ?_
  refine AW.sg [0,1,2,7,17] [] trivial ?_
  refine AW.cn ?_ ?_
  · intro hb
    refine AW.sg [6] [] trivial ?_
    rw [← hQr]
    refine AW.rt trivial ?_
    exact Wk.refl _
  · intro hb
    exfalso; simp at hb
theorem rext_s (n m : Nat) (p q : List (List Bool)) (hsp : Sq n p) (hsq : Sq n q) (hn : n ≤ 512) (f : List Nat) (hf : f.length < n) (hfr : ∀ y ∈ f, y < n)
    (ih : ∀ x, x < n → Reads Tryz.prog 67 false [.rsl 1 (rowsR p), .rsl 1 (rowsR q), .rsl 1 (ints (nats (f ++ [x])))] (rexV (extI p q n m (f ++ [x])))) :
    Reads Tryz.prog 67 false [.rsl 1 (rowsR p), .rsl 1 (rowsR q), .rsl 1 (ints (nats f))] (rexV (extI p q n (m + 1) f)) := by
  have hlp : (rowsR p).length = n := by rw [rowsR_len, hsp.len]
  have hlq : (rowsR q).length = n := by rw [rowsR_len, hsq.len]
  have hlp' := hsp.len
  have hlq' := hsq.len
  have hfl : (nats f).length = f.length := nats_len f
  have hgf : ∀ j, j < f.length → (ints (nats f)).getD j [] = [.int .i64 (f.getD j 0 : Nat)] := fun j hj => nats_getD hj
  have hfm : ∀ j, j < f.length → f.getD j 0 < n := fun j hj => hfr _ (mem_getD hj 0)
  have hdp := degree_r n p hsp hn f.length hf
  have hdq := fun x hx => degree_r n q hsq hn x hx
  have hgp := fun x hx => rowsR_get (t := p) (i := x) hx
  have hgq := fun x hx => rowsR_get (t := q) (i := x) hx
  have hbp : ∀ a c, a < n → c < n → (bools (rowT p a)).getD c [] = [.bool (atT p a c)] := fun a c ha hc => bools_getD (l := rowT p a) (i := c) (by rw [hsp.rowLen ha]; exact hc)
  have hbq : ∀ a c, a < n → c < n → (bools (rowT q a)).getD c [] = [.bool (atT q a c)] := fun a c ha hc => bools_getD (l := rowT q a) (i := c) (by rw [hsq.rowLen ha]; exact hc)
  have hblp : ∀ a, a < n → (bools (rowT p a)).length = n := fun a ha => by rw [bools_len, hsp.rowLen ha]
  have hblq : ∀ a, a < n → (bools (rowT q a)).length = n := fun a ha => by rw [bools_len, hsq.rowLen ha]
  have hup : ∀ x, x < n → ∀ g v, Upd Tryz.prog 67 [(0, some ⟨g, v, 1, ints (nats (f ++ [x]))⟩)] [.rsl 1 (rowsR p), .rsl 1 (rowsR q), .sl ⟨0, g, none⟩ 0 (f.length + 1) none] (fun _ => rexV (extI p q n m (f ++ [x]))) (fun _ => []) := fun x hx g v => by
    have h := ih x hx
    have := h.updL (by simp [vw_rsl]) (by simp [vw_rsl]) (fun s => by simp [vw_rsl]) (fun s => by simp [vw_rsl]) g v (N := f.length + 1) (by simp [nats_len])
    exact this
  have hdb : ∀ x, degB p q n f.length x = (decide ((cD p f.length n : Int) = (cD q x n : Nat)) && decide ((cU p f.length n : Int) = (cU q x n : Nat))) := fun x => by
    unfold degB
    rw [Bool.and_comm, show decide ((cU p f.length n : Int) = (cU q x n : Nat)) = decide (cU p f.length n = cU q x n) from decide_eq_decide.2 (by omega), show decide ((cD p f.length n : Int) = (cD q x n : Nat)) = decide (cD p f.length n = cD q x n) from decide_eq_decide.2 (by omega)]
  have hfb : ∀ x, fitB p q n f x = (fitR p q f f.length x f.length && degB p q n f.length x) := fun x => by
    rw [fitR_eq]
    unfold fitB
    cases f.contains x <;> cases degB p q n f.length x <;> cases fitJ p q f f.length x f.length <;> rfl
  refine Reads.body (rs := [.tmp 6]) Tryz.func67 rfl Tryz.ntmps67 rfl (by simp) ?_
  generalize hQr : retQ _ _ _ = Qr
  refine AW.sg [0,1,2] [] trivial ?_
  refine AW.sg [0,1,2,7] [] (e2 @ints_len @hfl) ?_
  refine AW.seq fun K1 hK1 => ?_
  refine AW.sg [0,1,2,7,17] [] (@hlp) ?_
  refine AW.cn ?_ ?_
  · intro hb
    exfalso; omega
  · intro hb
    refine AW.skip ?_
    refine hK1 _ _ _ ?_; clear hK1
    refine AW.seq fun K2 hK2 => ?_
    refine AW.sg [0,1,2,7,8] [] trivial ?_
    refine AW.block ?_
    refine AW.loopE (fun mm ee ss kk => ∃ (x : Nat), n - x = mm ∧ ee = [(0, .rsl 1 (rowsR p)), (1, .rsl 1 (rowsR q)), (2, .rsl 1 (ints (nats f))), (7, .int .i64 f.length), (8, .int .i64 (x : Nat))] ∧ ss = [] ∧ (x ≤ n ∧ extU p q n m f x = none)) ?_ ?_
    · exact ⟨_, 0, rfl, eD, eD, (⟨by omega, extU_zero ..⟩)⟩
    rintro mm ee ss kk ⟨x, rfl, rfl, rfl, hI⟩
    generalize hQl1 : thenQ _ _ = Ql1
    obtain ⟨hx0, hex⟩ := hI
    refine AW.seq fun K3 hK3 => ?_
    refine AW.sg [0,1,2,7,8,22] [] (@hlq) ?_
    refine AW.cn ?_ ?_
    · intro hb
      have hxn : x < n := by omega
      have hd1 := hdq x hxn
      have hdbx := hdb x
      have hfbx := hfb x
      have hus := extU_succ p q n m f x hex
      have hst := fun g => extU_stop p q n m f x hxn hex (g := g)
      have hup1 := hup x hxn
      have hap : ints (nats f) ++ [[.int .i64 (x : Nat)]] = ints (nats (f ++ [x])) := by rw [← nats_app]; simp [ints]
      have hft : List.take f.length (nats f) = nats f := List.take_of_length_le (by omega)
      have hfti : List.take f.length (ints (nats f)) = ints (nats f) := List.take_of_length_le (by rw [ints_len]; omega)
      refine AW.skip ?_
      refine hK3 _ _ _ ?_; clear hK3
      refine AW.seq fun K4 hK4 => ?_
      refine AW.block ?_
      refine AW.sg [0,1,2,7,8,9] [] trivial ?_
      refine AW.seq fun K5 hK5 => ?_
      refine AW.sg [0,1,2,7,8,9,10] [] trivial ?_
      refine AW.block ?_
      refine AW.loopE (fun mm ee ss kk => ∃ (j : Nat), f.length - j = mm ∧ ee = [(0, .rsl 1 (rowsR p)), (1, .rsl 1 (rowsR q)), (2, .rsl 1 (ints (nats f))), (7, .int .i64 f.length), (8, .int .i64 (x : Nat)), (9, .bool (fitR p q f f.length x j)), (10, .int .i64 (j : Nat))] ∧ ss = [] ∧ (j ≤ f.length)) ?_ ?_
      · exact ⟨_, 0, rfl, eD, eD, eT⟩
      rintro mm ee ss kk ⟨j, rfl, rfl, rfl, hI⟩
      generalize hQl2 : thenQ _ _ = Ql2
      refine AW.seq fun K6 hK6 => ?_
      refine AW.sg [0,1,2,7,8,9,10,27] [] trivial ?_
      refine AW.cn ?_ ?_
      · intro hb
        have hjf : j < f.length := by omega
        have hgj := hgf j hjf
        have hyn := hfm j hjf
        have hgpi := hgp f.length (by omega)
        have hgpj := hgp j (by omega)
        have hgqx := hgq x (by omega)
        have hgqy := hgq (f.getD j 0) (by omega)
        have has := fitR_succ p q f f.length x j
        generalize f.getD j 0 = y at *
        have k1 := hbp j f.length (by omega) (by omega)
        have k2 := hbq y x hyn hxn
        have k3 := hbp f.length j (by omega) (by omega)
        have k4 := hbq x y hxn hyn
        have l1 := hblp j (by omega)
        have l2 := hblq y hyn
        have l3 := hblp f.length (by omega)
        have l4 := hblq x hxn
        have hcd : decide ((y : Int) = (x : Nat)) = decide (y = x) := decide_eq_decide.2 (by omega)
        refine AW.skip ?_
        refine hK6 _ _ _ ?_; clear hK6
        refine AW.seq fun K7 hK7 => ?_
        refine AW.block ?_
        refine AW.sd mixed 0 (fun _ => none) [0,1,2,7,8,9,10,75] [] (e3 @hgj @ints_len (e5 @hfl @hlp @hlq @hlp' (e5 @hlq' @hgpi @hgpj @hgqx (e5 @hgqy @k1 @k2 @k3 (e5 @k4 @l1 @l2 @l3 @l4))))) ?_
        repeat with_reducible refine cj ?_ ?_
        all_goals try first | omega | exact chk (by kernel_rfl) | (intros; (repeat' apply And.intro) <;> first | assumption | omega | decide) | (intro hgd; exact absurd hgd (by decide)) | rfl | (simp only [go_sem, reduceIte, reduceCtorEq, zA, zM, zE, zL, zD, zS, zP, zB, zI, zR, hgj, ints_len, hfl, hlp, hlq, hlp', hlq', hgpi, hgpj, hgqx, hgqy, k1, k2, k3, k4, l1, l2, l3, l4]; done) | (intro _hgd; simp_all [go_sem]; done)
        refine AW.cn ?_ ?_
        · intro hb
          have hf0 : fitR p q f f.length x (j + 1) = false := by rw [has]; rcases hb with (hb | hb) | hb; (rw [show y = x by omega]; simp); (simp [hb]); (simp [hb])
          refine AW.rg [0,1,2,7,8,9,10] [] trivial ?_
          refine hK7 _ _ _ ?_; clear hK7
          refine AW.rg [0,1,2,7,8,9,10] [] trivial ?_
          rw [← hQl2]; change Exists _
          refine ⟨_, ?hm, j + 1, rfl, ?henv, ?hstore, ?hst⟩
          case henv =>
            repeat' (first | rfl | apply env_cons | apply st_cons | apply int_eq | apply bool_eq | apply rsl_eq | apply osl_eq | apply sl_eq | apply ptr_eq | apply agg_eq | apply es_cons | apply row_cons)
            all_goals (first | (rw [hf0]; done) | (rw [hf1]; done) | (simp; done) | omega)
          case hstore =>
            repeat' (first | rfl | apply env_cons | apply st_cons | apply int_eq | apply bool_eq | apply rsl_eq | apply osl_eq | apply sl_eq | apply ptr_eq | apply agg_eq | apply es_cons | apply row_cons)
            all_goals (first | (simp; done) | omega | (simp; omega))
          case hst =>
            first | trivial | omega | (simp; done) | (simp; omega)
          case hm => omega
        · intro hb
          have hf1 : fitR p q f f.length x (j + 1) = fitR p q f f.length x j := by rw [has, ← hcd]; simp_all
          refine AW.skip ?_
          refine hK7 _ _ _ ?_; clear hK7
          refine AW.rg [0,1,2,7,8,9,10] [] trivial ?_
          rw [← hQl2]; change Exists _
          refine ⟨_, ?hm, j + 1, rfl, ?henv, ?hstore, ?hst⟩
          case henv =>
            repeat' (first | rfl | apply env_cons | apply st_cons | apply int_eq | apply bool_eq | apply rsl_eq | apply osl_eq | apply sl_eq | apply ptr_eq | apply agg_eq | apply es_cons | apply row_cons)
            all_goals (first | (rw [hf0]; done) | (rw [hf1]; done) | (simp; done) | omega)
          case hstore =>
            repeat' (first | rfl | apply env_cons | apply st_cons | apply int_eq | apply bool_eq | apply rsl_eq | apply osl_eq | apply sl_eq | apply ptr_eq | apply agg_eq | apply es_cons | apply row_cons)
            all_goals (first | (simp; done) | omega | (simp; omega))
          case hst =>
            first | trivial | omega | (simp; done) | (simp; omega)
          case hm => omega
      · intro hb
        have hj : j = f.length := by omega
        subst hj
        refine AW.kx [0,1,2,7,8,9] [] ?_
        rw [← hQl2]
        refine hK5 _ _ _ ?_; clear hK5
        refine AW.seq fun K8 hK8 => ?_
        refine AW.so 0 (fun ii => if ii = 5 then some (.reads false (.agg [.int .i64 (cD p f.length n : Nat), .int .i64 (cU p f.length n : Nat)])) else if ii = 8 then some (.reads false (.agg [.int .i64 (cD q x n : Nat), .int .i64 (cU q x n : Nat)])) else none) [0,1,2,7,8,86] [] trivial ?_
        repeat with_reducible refine cj ?_ ?_
        all_goals try first | (first | (intro hh; exact ⟨hh, hdp⟩) | (intro hh; exact ⟨hh, hd1⟩)) | (intros; (repeat' apply And.intro) <;> first | assumption | (first | (intro hh; exact ⟨hh, hdp⟩) | (intro hh; exact ⟨hh, hd1⟩))) | omega | exact ent (by kernel_rfl) | (intro hgd; exact absurd hgd (by decide)) | rfl | exact gD | (intro _hgd; simp_all [go_sem]; done)
        refine AW.cn ?_ ?_
        · intro hb
          have hf0 : fitB p q n f x = false := by rw [hfbx, hdbx]; rcases hb with hb | hb | hb; (rw [hb]; rfl); (rw [decide_eq_false hb]; simp); (rw [decide_eq_false hb]; simp)
          rw [hf0, if_neg (by simp)] at hus
          refine AW.kx [0,1,2,7,8] [] ?_
          refine hK4 _ _ _ ?_; clear hK4
          refine AW.rg [0,1,2,7,8] [] trivial ?_
          rw [← hQl1]; change Exists _
          exact ⟨_, eO, x + 1, rfl, eD, eD, (⟨by omega, hus⟩)⟩
        · intro hb
          obtain ⟨hb1, hb2, hb3⟩ := hb
          have hfb2 : fitB p q n f x = true := by rw [hfbx, hdbx, hb1, decide_eq_true hb2, decide_eq_true hb3]; rfl
          rw [hfb2, if_pos rfl] at hus
          clear hfbx hdbx
          refine AW.skip ?_
          refine hK8 _ _ _ ?_; clear hK8
          rcases h14 : extI p q n m (f ++ [x]) with _ | gg
          · skip
            rw [h14] at hup1 hus
            refine AW.so 0 (fun ii => if ii = 8 then some (.upd [91] (fun _ => []) (fun _ => .nilq true)) else none) [0,1,2,7,8,11] [] (e2 @ints_len (e5 @hfl @hft @hfti @hap @renC_ints)) ?_
            repeat with_reducible refine cj ?_ ?_
            all_goals try first | (first | exact hup1 _ _) | omega | exact ent (by kernel_rfl) | (simp [scP, scalar]; done) | exact scP_words _ | exact scP_ints _ | exact scP_bools _
            refine AW.sg [0,1,2,7,8,11,97] [] trivial ?_
            repeat with_reducible refine cj ?_ ?_
            all_goals try first | (exact hgn) | omega
            refine AW.cn ?_ ?_
            · intro hb
              exfalso; simp at hb
            · intro hb
              refine AW.skip ?_
              refine hK4 _ _ _ ?_; clear hK4
              refine AW.rg [0,1,2,7,8] [] trivial ?_
              rw [← hQl1]; change Exists _
              exact ⟨_, eO, x + 1, rfl, eD, eD, (⟨by omega, hus⟩)⟩
          · skip
            rw [h14] at hup1
            have hst2 := hst gg hfb2 h14
            have hgl := extI_len p q n m _ _ h14
            have hgn : ints (nats gg) ≠ [] := fun e => by
              have := congrArg List.length e
              rw [ints_len, nats_len, hgl] at this
              simp at this
            refine AW.so 0 (fun ii => if ii = 8 then some (.upd [91] (fun _ => []) (fun _ => .rsl 1 (ints (nats gg)))) else none) [0,1,2,7,8,11] [] (e2 @ints_len (e5 @hfl @hft @hfti @hap @renC_ints)) ?_
            repeat with_reducible refine cj ?_ ?_
            all_goals try first | (first | exact hup1 _ _) | omega | exact ent (by kernel_rfl) | (simp [scP, scalar]; done) | exact scP_words _ | exact scP_ints _ | exact scP_bools _
            refine AW.sg [0,1,2,7,8,11,97] [] trivial ?_
            repeat with_reducible refine cj ?_ ?_
            all_goals try first | (exact hgn) | omega
            refine AW.cn ?_ ?_
            · intro hb
              refine AW.sg [6] [] trivial ?_
              rw [← hQl1, ← hQr]
              refine AW.rt trivial ?_
              rw [hst2]; exact Wk.refl _
            · intro hb
              exfalso; simp at hb
    · intro hb
      have hx : x = n := by omega
      subst hx
      refine AW.kx [] [] ?_
      rw [← hQl1]
      refine hK2 _ _ _ ?_; clear hK2
      refine AW.seq fun K9 hK9 => ?_
      refine AW.nil0 (by decide) ?_
      try simp only [go_sem, reduceIte, reduceCtorEq, zA, zM, zE, zL, zD, zS, zP, zB, zI, zR]
      refine hK9 _ _ _ ?_; clear hK9
      rw [← hQr]
      refine AW.rt trivial ?_
      rw [← extU_end, hex]; exact Wk.refl _
end Go.Proofs.B

/- The laws of joins and meets. -/
namespace Go.AM
/-- J gives the least upper bounds of q on the first n numbers. -/
def IsJ (q : Nat → Nat → Bool) (n : Nat) (J : Nat → Nat → Nat) : Prop := ∀ i j, i < n → j < n → J i j < n ∧ ∀ x, x < n → q (J i j) x = (q i x && q j x)
structure PoQ (q : Nat → Nat → Bool) (n : Nat) : Prop where
  refl : ∀ i, q i i = true
  trans : ∀ i j k, i < n → j < n → k < n → q i j = true → q j k = true → q i k = true
  anti : ∀ i j, i < n → j < n → q i j = true → q j i = true → i = j
theorem PoQ.ext {q : Nat → Nat → Bool} {n : Nat} (p : PoQ q n) {a b : Nat} (ha : a < n) (hb : b < n) (h : ∀ x, x < n → q a x = q b x) : a = b :=
  p.anti a b ha hb (by rw [h b hb]; exact p.refl b) (by rw [← h a ha]; exact p.refl a)
theorem IsJ.le {q : Nat → Nat → Bool} {n : Nat} {J : Nat → Nat → Nat} (p : PoQ q n) (h : IsJ q n J) {i j : Nat} (hi : i < n) (hj : j < n) : q i (J i j) = true ∧ q j (J i j) = true := by
  have h1 := h i j hi hj
  have h2 := h1.2 (J i j) h1.1
  rw [p.refl, eq_comm, Bool.and_eq_true] at h2
  exact h2
end Go.AM

namespace Go.Proofs.B
open Go.AM Go
set_option maxRecDepth 100000
set_option maxHeartbeats 4000000
end Go.Proofs.B

/- A long region may be run in two parts. -/
namespace Go.AM
end Go.AM

namespace Go.Proofs.B
open Go.AM Go
set_option maxRecDepth 100000
set_option maxHeartbeats 8000000
end Go.Proofs.B

namespace Go.Proofs.B
open Go.AM Go
set_option maxRecDepth 100000
set_option maxHeartbeats 4000000
theorem ext_r (n : Nat) (p q : List (List Bool)) (hsp : Sq n p) (hsq : Sq n q) (hn : n ≤ 512) : ∀ (m : Nat) (f : List Nat), f.length + m = n → (∀ y ∈ f, y < n) → Reads Tryz.prog 66 false [relB p, relB q, .rsl 1 (ints (nats f))] (extV (extI p q n m f))
  | 0, f, hf, _ => ext_0 n p q hsp.len f (by omega) hn
  | m + 1, f, hf, hfr => ext_s n m p q hsp hsq hn f (by omega) hfr fun x hx => ext_r n p q hsp hsq hn m (f ++ [x]) (by simp; omega) fun y hy => by
    rcases List.mem_append.1 hy with h | h
    · exact hfr y h
    · rw [List.mem_singleton.1 h]; exact hx
theorem rext_r (n : Nat) (p q : List (List Bool)) (hsp : Sq n p) (hsq : Sq n q) (hn : n ≤ 512) : ∀ (m : Nat) (f : List Nat), f.length + m = n → (∀ y ∈ f, y < n) → Reads Tryz.prog 67 false [.rsl 1 (rowsR p), .rsl 1 (rowsR q), .rsl 1 (ints (nats f))] (rexV (extI p q n m f))
  | 0, f, hf, _ => rext_0 n p q hsp.len f (by omega)
  | m + 1, f, hf, hfr => rext_s n m p q hsp hsq hn f (by omega) hfr fun x hx => rext_r n p q hsp hsq hn m (f ++ [x]) (by simp; omega) fun y hy => by
    rcases List.mem_append.1 hy with h | h
    · exact hfr y h
    · rw [List.mem_singleton.1 h]; exact hx
/-- The programs' Isomorphism. -/
theorem iso_e (es fs : List (List AV)) (b c : Bool) (h1 : Reads Tryz.prog 58 false [.agg [.rsl 2 es]] (.bool b)) (h2 : Reads Tryz.prog 58 false [.agg [.rsl 2 fs]] (.bool c)) (hbc : (b && c) = false) : Reads Tryz.prog 26 false [.agg [.rsl 2 es], .agg [.rsl 2 fs]] (.tup [.nilsl, .int .i64 1]) := by
  refine Reads.body (rs := [.tmp 4, .tmp 5]) Tryz.func26 rfl Tryz.ntmps26 rfl (by simp) ?_
  generalize hQr : retQ _ _ _ = Qr
  refine AW.sg [2,3] [2,3] trivial ?_
  refine AW.seq fun K1 hK1 => ?_
  refine AW.block ?_
  refine AW.so 0 (fun ii => if ii = 1 then some (.reads false (.bool b)) else if ii = 5 then some (.reads false (.bool c)) else none) [2,3,8] [2,3] trivial ?_
  repeat with_reducible refine cj ?_ ?_
  all_goals try first | (first | exact h1 | (intro hh; exact ⟨hh, h2⟩)) | (intros; (repeat' apply And.intro) <;> first | assumption | (first | exact h1 | (intro hh; exact ⟨hh, h2⟩))) | omega | exact ent (by kernel_rfl) | (intro hgd; exact absurd hgd (by decide)) | rfl | exact gD | (intro _hgd; simp_all [go_sem]; done)
  refine AW.cn ?_ ?_
  · intro hb
    refine AW.sg [4,5] [] trivial ?_
    rw [← hQr]
    refine AW.rt trivial ?_
    exact Wk.refl _
  · intro hb
    exfalso; revert hb hbc; cases b <;> cases c <;> simp
theorem iso_big (es fs : List (List AV)) (h1 : Reads Tryz.prog 58 false [.agg [.rsl 2 es]] (.bool true)) (h2 : Reads Tryz.prog 58 false [.agg [.rsl 2 fs]] (.bool true)) (hl : 12 < es.length ∨ 12 < fs.length) : Reads Tryz.prog 26 false [.agg [.rsl 2 es], .agg [.rsl 2 fs]] (.tup [.nilsl, .int .i64 9]) := by
  refine Reads.body (rs := [.tmp 4, .tmp 5]) Tryz.func26 rfl Tryz.ntmps26 rfl (by simp) ?_
  generalize hQr : retQ _ _ _ = Qr
  refine AW.sg [2,3] [2,3] trivial ?_
  refine AW.seq fun K1 hK1 => ?_
  refine AW.block ?_
  refine AW.so 0 (fun ii => if ii = 1 then some (.reads false (.bool true)) else if ii = 5 then some (.reads false (.bool true)) else none) [2,3,8] [2,3] trivial ?_
  repeat with_reducible refine cj ?_ ?_
  all_goals try first | (first | exact h1 | (intro hh; exact ⟨hh, h2⟩)) | (intros; (repeat' apply And.intro) <;> first | assumption | (first | exact h1 | (intro hh; exact ⟨hh, h2⟩))) | omega | exact ent (by kernel_rfl) | (intro hgd; exact absurd hgd (by decide)) | rfl | exact gD | (intro _hgd; simp_all [go_sem]; done)
  refine AW.cn ?_ ?_
  · intro hb
    exfalso; simp at hb
  · intro hb
    refine AW.sg [2,3,17] [2,3] trivial ?_
    repeat with_reducible refine cj ?_ ?_
    all_goals try first | omega | (intros; (repeat' apply And.intro) <;> first | assumption | omega | decide) | (intro hgd; exact absurd hgd (by decide)) | rfl | exact gD | (intro _hgd; simp_all [go_sem]; done)
    refine AW.cn ?_ ?_
    · intro hb
      refine AW.sg [4,5] [] trivial ?_
      rw [← hQr]
      refine AW.rt trivial ?_
      exact Wk.refl _
    · intro hb
      exfalso; omega
theorem iso_ne (es fs : List (List AV)) (h1 : Reads Tryz.prog 58 false [.agg [.rsl 2 es]] (.bool true)) (h2 : Reads Tryz.prog 58 false [.agg [.rsl 2 fs]] (.bool true)) (hl1 : es.length ≤ 12) (hl2 : fs.length ≤ 12) (hne : es.length ≠ fs.length) : Reads Tryz.prog 26 false [.agg [.rsl 2 es], .agg [.rsl 2 fs]] (.tup [.nilsl, .int .i64 7]) := by
  refine Reads.body (rs := [.tmp 4, .tmp 5]) Tryz.func26 rfl Tryz.ntmps26 rfl (by simp) ?_
  generalize hQr : retQ _ _ _ = Qr
  refine AW.sg [2,3] [2,3] trivial ?_
  refine AW.seq fun K1 hK1 => ?_
  refine AW.block ?_
  refine AW.so 0 (fun ii => if ii = 1 then some (.reads false (.bool true)) else if ii = 5 then some (.reads false (.bool true)) else none) [2,3,8] [2,3] trivial ?_
  repeat with_reducible refine cj ?_ ?_
  all_goals try first | (first | exact h1 | (intro hh; exact ⟨hh, h2⟩)) | (intros; (repeat' apply And.intro) <;> first | assumption | (first | exact h1 | (intro hh; exact ⟨hh, h2⟩))) | omega | exact ent (by kernel_rfl) | (intro hgd; exact absurd hgd (by decide)) | rfl | exact gD | (intro _hgd; simp_all [go_sem]; done)
  refine AW.cn ?_ ?_
  · intro hb
    exfalso; simp at hb
  · intro hb
    refine AW.sg [2,3,17] [2,3] trivial ?_
    repeat with_reducible refine cj ?_ ?_
    all_goals try first | omega | (intros; (repeat' apply And.intro) <;> first | assumption | omega | decide) | (intro hgd; exact absurd hgd (by decide)) | rfl | exact gD | (intro _hgd; simp_all [go_sem]; done)
    refine AW.cn ?_ ?_
    · intro hb
      exfalso; omega
    · intro hb
      refine AW.sg [2,3,28] [2,3] trivial ?_
      refine AW.cn ?_ ?_
      · intro hb
        refine AW.sg [4,5] [] trivial ?_
        rw [← hQr]
        refine AW.rt trivial ?_
        exact Wk.refl _
      · intro hb
        exfalso; omega
theorem ext_nil (n : Nat) (p q : List (List Bool)) (hsp : Sq n p) (hsq : Sq n q) (hn : n ≤ 512) : Reads Tryz.prog 66 false [relB p, relB q, .nilsl] (extV (extI p q n n [])) :=
  (ext_r n p q hsp hsq hn n [] (by simp) (by simp)).wk (args := [relB p, relB q, .nilsl]) (.cons (Wk.refl _) (.cons (Wk.refl _) (.cons (Wk.nil 1) .nil))) (Wk.refl _)
theorem iso_none (n : Nat) (p q : List (List Bool)) (hsp : Sq n p) (hsq : Sq n q) (hn : n ≤ 12) (h1 : poB n p = true) (h2 : poB n q = true) (he : extI p q n n [] = none) : Reads Tryz.prog 26 false [relB p, relB q] (.tup [.nilsl, .int .i64 7]) := by
  have hv1 := pvalid_g n p hsp (by omega)
  have hv2 := pvalid_g n q hsq (by omega)
  rw [h1] at hv1
  rw [h2] at hv2
  have hx := ext_nil n p q hsp hsq (by omega)
  rw [he] at hx
  have hlp : (tabR p).length = n := by rw [tabR_len, hsp.len]
  have hlq : (tabR q).length = n := by rw [tabR_len, hsq.len]
  unfold relB extV at *
  refine Reads.body (rs := [.tmp 4, .tmp 5]) Tryz.func26 rfl Tryz.ntmps26 rfl (by simp) ?_
  generalize hQr : retQ _ _ _ = Qr
  refine AW.sg [2,3] [2,3] (e2 @hlp @hlq) ?_
  refine AW.seq fun K1 hK1 => ?_
  refine AW.block ?_
  refine AW.so 0 (fun ii => if ii = 1 then some (.reads false (.bool true)) else if ii = 5 then some (.reads false (.bool true)) else none) [2,3,8] [2,3] (e2 @hlp @hlq) ?_
  repeat with_reducible refine cj ?_ ?_
  all_goals try first | (first | exact hv1 | (intro hh; exact ⟨hh, hv2⟩)) | (intros; (repeat' apply And.intro) <;> first | assumption | (first | exact hv1 | (intro hh; exact ⟨hh, hv2⟩))) | omega | exact ent (by kernel_rfl) | (intro hgd; exact absurd hgd (by decide)) | rfl | (simp only [go_sem, reduceIte, reduceCtorEq, zA, zM, zE, zL, zD, zS, zP, zB, zI, zR, hlp, hlq]; done) | (intro _hgd; simp_all [go_sem]; done)
  refine AW.cn ?_ ?_
  · intro hb
    exfalso; simp at hb
  · intro hb
    refine AW.sg [2,3,17] [2,3] (e2 @hlp @hlq) ?_
    repeat with_reducible refine cj ?_ ?_
    all_goals try first | omega | (intros; (repeat' apply And.intro) <;> first | assumption | omega | decide) | (intro hgd; exact absurd hgd (by decide)) | rfl | (simp only [go_sem, reduceIte, reduceCtorEq, zA, zM, zE, zL, zD, zS, zP, zB, zI, zR, hlp, hlq]; done) | (intro _hgd; simp_all [go_sem]; done)
    refine AW.cn ?_ ?_
    · intro hb
      exfalso; omega
    · intro hb
      refine AW.sg [2,3,28] [2,3] (e2 @hlp @hlq) ?_
      refine AW.cn ?_ ?_
      · intro hb
        exfalso; first | omega | (simp at hb)
      · intro hb
        refine AW.skip ?_
        refine hK1 _ _ _ ?_; clear hK1
        refine AW.so 0 (fun ii => if ii = 2 then some (.reads false (.tup [.rsl 1 (ints (nats [])), .bool false])) else none) [6,7] [] (e2 @hlp @hlq) ?_
        repeat with_reducible refine cj ?_ ?_
        all_goals try first | (exact hx) | omega | exact ent (by kernel_rfl)
        refine AW.seq fun K2 hK2 => ?_
        refine AW.sg [6,43] [] (e2 @hlp @hlq) ?_
        refine AW.cn ?_ ?_
        · intro hb
          refine AW.sg [4,5] [] (e2 @hlp @hlq) ?_
          rw [← hQr]
          refine AW.rt (e2 @hlp @hlq) ?_
          exact Wk.refl _
        · intro hb
          exfalso; simp at hb
theorem iso_some (n : Nat) (p q : List (List Bool)) (hsp : Sq n p) (hsq : Sq n q) (hn : n ≤ 12) (h1 : poB n p = true) (h2 : poB n q = true) (g : List Nat) (he : extI p q n n [] = some g) : Reads Tryz.prog 26 false [relB p, relB q] (.tup [.rsl 1 (ints (nats g)), .int .i64 0]) := by
  have hv1 := pvalid_g n p hsp (by omega)
  have hv2 := pvalid_g n q hsq (by omega)
  rw [h1] at hv1
  rw [h2] at hv2
  have hx := ext_nil n p q hsp hsq (by omega)
  rw [he] at hx
  have hlp : (tabR p).length = n := by rw [tabR_len, hsp.len]
  have hlq : (tabR q).length = n := by rw [tabR_len, hsq.len]
  unfold relB extV at *
  refine Reads.body (rs := [.tmp 4, .tmp 5]) Tryz.func26 rfl Tryz.ntmps26 rfl (by simp) ?_
  generalize hQr : retQ _ _ _ = Qr
  refine AW.sg [2,3] [2,3] (e2 @hlp @hlq) ?_
  refine AW.seq fun K1 hK1 => ?_
  refine AW.block ?_
  refine AW.so 0 (fun ii => if ii = 1 then some (.reads false (.bool true)) else if ii = 5 then some (.reads false (.bool true)) else none) [2,3,8] [2,3] (e2 @hlp @hlq) ?_
  repeat with_reducible refine cj ?_ ?_
  all_goals try first | (first | exact hv1 | (intro hh; exact ⟨hh, hv2⟩)) | (intros; (repeat' apply And.intro) <;> first | assumption | (first | exact hv1 | (intro hh; exact ⟨hh, hv2⟩))) | omega | exact ent (by kernel_rfl) | (intro hgd; exact absurd hgd (by decide)) | rfl | (simp only [go_sem, reduceIte, reduceCtorEq, zA, zM, zE, zL, zD, zS, zP, zB, zI, zR, hlp, hlq]; done) | (intro _hgd; simp_all [go_sem]; done)
  refine AW.cn ?_ ?_
  · intro hb
    exfalso; simp at hb
  · intro hb
    refine AW.sg [2,3,17] [2,3] (e2 @hlp @hlq) ?_
    repeat with_reducible refine cj ?_ ?_
    all_goals try first | omega | (intros; (repeat' apply And.intro) <;> first | assumption | omega | decide) | (intro hgd; exact absurd hgd (by decide)) | rfl | (simp only [go_sem, reduceIte, reduceCtorEq, zA, zM, zE, zL, zD, zS, zP, zB, zI, zR, hlp, hlq]; done) | (intro _hgd; simp_all [go_sem]; done)
    refine AW.cn ?_ ?_
    · intro hb
      exfalso; omega
    · intro hb
      refine AW.sg [2,3,28] [2,3] (e2 @hlp @hlq) ?_
      refine AW.cn ?_ ?_
      · intro hb
        exfalso; first | omega | (simp at hb)
      · intro hb
        refine AW.skip ?_
        refine hK1 _ _ _ ?_; clear hK1
        refine AW.so 0 (fun ii => if ii = 2 then some (.reads false (.tup [.rsl 1 (ints (nats g)), .bool true])) else none) [6,7] [] (e2 @hlp @hlq) ?_
        repeat with_reducible refine cj ?_ ?_
        all_goals try first | (exact hx) | omega | exact ent (by kernel_rfl)
        refine AW.seq fun K2 hK2 => ?_
        refine AW.sg [6,43] [] (e2 @hlp @hlq) ?_
        refine AW.cn ?_ ?_
        · intro hb
          exfalso; simp at hb
        · intro hb
          refine AW.skip ?_
          refine hK2 _ _ _ ?_; clear hK2
          refine AW.sg [4,5] [] (e2 @hlp @hlq) ?_
          rw [← hQr]
          refine AW.rt (e2 @hlp @hlq) ?_
          exact Wk.refl _
/-- The reference's. -/
theorem riso_ne (es fs : List (List AV)) (hl1 : es.length ≤ 512) (hl2 : fs.length ≤ 512) (hne : es.length ≠ fs.length) : Reads Tryz.prog 27 false [.rsl 1 es, .rsl 1 fs] (.tup [.nilsl, .bool false]) := by
  refine Reads.body (rs := [.tmp 4, .tmp 5]) Tryz.func27 rfl Tryz.ntmps27 rfl (by simp) ?_
  generalize hQr : retQ _ _ _ = Qr
  refine AW.sg [0,1] [] trivial ?_
  refine AW.seq fun K1 hK1 => ?_
  refine AW.sg [0,1,11] [] trivial ?_
  refine AW.cn ?_ ?_
  · intro hb
    refine AW.sg [4,5] [] trivial ?_
    rw [← hQr]
    refine AW.rt trivial ?_
    exact Wk.refl _
  · intro hb
    exfalso; omega
theorem rext_nil (n : Nat) (p q : List (List Bool)) (hsp : Sq n p) (hsq : Sq n q) (hn : n ≤ 512) : Reads Tryz.prog 67 false [.rsl 1 (rowsR p), .rsl 1 (rowsR q), .nilsl] (rexV (extI p q n n [])) :=
  (rext_r n p q hsp hsq hn n [] (by simp) (by simp)).wk (args := [.rsl 1 (rowsR p), .rsl 1 (rowsR q), .nilsl]) (.cons (Wk.refl _) (.cons (Wk.refl _) (.cons (Wk.nil 1) .nil))) (Wk.refl _)
theorem riso_none (n : Nat) (p q : List (List Bool)) (hsp : Sq n p) (hsq : Sq n q) (hn : n ≤ 512) (he : extI p q n n [] = none) : Reads Tryz.prog 27 false [.rsl 1 (rowsR p), .rsl 1 (rowsR q)] (.tup [.nilsl, .bool false]) := by
  have hx := rext_nil n p q hsp hsq (by omega)
  rw [he] at hx
  have hlp : (rowsR p).length = n := by rw [rowsR_len, hsp.len]
  have hlq : (rowsR q).length = n := by rw [rowsR_len, hsq.len]
  unfold rexV at *
  refine Reads.body (rs := [.tmp 4, .tmp 5]) Tryz.func27 rfl Tryz.ntmps27 rfl (by simp) ?_
  generalize hQr : retQ _ _ _ = Qr
  refine AW.sg [0,1] [] (e2 @hlp @hlq) ?_
  refine AW.seq fun K1 hK1 => ?_
  refine AW.sg [0,1,11] [] (e2 @hlp @hlq) ?_
  refine AW.cn ?_ ?_
  · intro hb
    exfalso; first | omega | (simp at hb)
  · intro hb
    refine AW.skip ?_
    refine hK1 _ _ _ ?_; clear hK1
    refine AW.so 0 (fun ii => if ii = 3 then some (.reads false (.nilq true)) else none) [6] [] (e2 @hlp @hlq) ?_
    repeat with_reducible refine cj ?_ ?_
    all_goals try first | (exact hx) | omega | exact ent (by kernel_rfl)
    refine AW.sg [4,5] [] (e2 @hlp @hlq) ?_
    rw [← hQr]
    refine AW.rt (e2 @hlp @hlq) ?_
    exact Wk.tup2 (Wk.nilq _) (Wk.refl _)
theorem riso_s (n : Nat) (p q : List (List Bool)) (hsp : Sq n p) (hsq : Sq n q) (hn : n ≤ 512) (h0 : 0 < n) (g : List Nat) (he : extI p q n n [] = some g) : Reads Tryz.prog 27 false [.rsl 1 (rowsR p), .rsl 1 (rowsR q)] (.tup [.rsl 1 (ints (nats g)), .bool true]) := by
  have hx := rext_nil n p q hsp hsq (by omega)
  rw [he] at hx
  have hgl := extI_len p q n n _ _ he
  have hgn : ints (nats g) ≠ [] := fun e => by
    have := congrArg List.length e
    rw [ints_len, nats_len, hgl] at this
    simp at this
    omega
  have hlp : (rowsR p).length = n := by rw [rowsR_len, hsp.len]
  have hlq : (rowsR q).length = n := by rw [rowsR_len, hsq.len]
  unfold rexV at *
  refine Reads.body (rs := [.tmp 4, .tmp 5]) Tryz.func27 rfl Tryz.ntmps27 rfl (by simp) ?_
  generalize hQr : retQ _ _ _ = Qr
  refine AW.sg [0,1] [] (e2 @hlp @hlq) ?_
  refine AW.seq fun K1 hK1 => ?_
  refine AW.sg [0,1,11] [] (e2 @hlp @hlq) ?_
  refine AW.cn ?_ ?_
  · intro hb
    exfalso; first | omega | (simp at hb)
  · intro hb
    refine AW.skip ?_
    refine hK1 _ _ _ ?_; clear hK1
    refine AW.so 0 (fun ii => if ii = 3 then some (.reads false (.rsl 1 (ints (nats g)))) else none) [6] [] (e2 @hlp @hlq) ?_
    repeat with_reducible refine cj ?_ ?_
    all_goals try first | (exact hx) | omega | exact ent (by kernel_rfl)
    refine AW.sg [4,5] [] (e2 @hlp @hlq) ?_
    repeat with_reducible refine cj ?_ ?_
    all_goals try first | (exact hgn) | omega
    rw [← hQr]
    refine AW.rt (e2 @hlp @hlq) ?_
    exact Wk.refl _
theorem riso_z : Reads Tryz.prog 27 false [.rsl 1 [], .rsl 1 []] (.tup [.rsl 1 [], .bool true]) := by
  have hx := rext_n
  refine Reads.body (rs := [.tmp 4, .tmp 5]) Tryz.func27 rfl Tryz.ntmps27 rfl (by simp) ?_
  generalize hQr : retQ _ _ _ = Qr
  refine AW.sg [0,1] [] trivial ?_
  refine AW.seq fun K1 hK1 => ?_
  refine AW.sg [0,1,11] [] trivial ?_
  refine AW.cn ?_ ?_
  · intro hb
    exfalso; simp at hb
  · intro hb
    refine AW.skip ?_
    refine hK1 _ _ _ ?_; clear hK1
    refine AW.so 0 (fun ii => if ii = 2 then some (.reads false (.nilq false)) else if ii = 3 then some (.reads false (.nilq false)) else none) [6] [] trivial ?_
    repeat with_reducible refine cj ?_ ?_
    all_goals try first | (exact hx) | omega | exact ent (by kernel_rfl)
    refine AW.sg [4,5] [] trivial ?_
    rw [← hQr]
    refine AW.rt trivial ?_
    exact Wk.tup2 ((Wk.nilq _).trans (Wk.nil 1)) (Wk.refl _)
theorem riso_some (n : Nat) (p q : List (List Bool)) (hsp : Sq n p) (hsq : Sq n q) (hn : n ≤ 512) (g : List Nat) (he : extI p q n n [] = some g) : Reads Tryz.prog 27 false [.rsl 1 (rowsR p), .rsl 1 (rowsR q)] (.tup [.rsl 1 (ints (nats g)), .bool true]) := by
  rcases Nat.eq_zero_or_pos n with h0 | h0
  · subst h0
    have e1 := List.eq_nil_of_length_eq_zero hsp.len
    have e2 := List.eq_nil_of_length_eq_zero hsq.len
    have e3 : g = [] := by
      have := extI_len p q 0 0 _ _ he
      exact List.eq_nil_of_length_eq_zero this
    subst e1; subst e2; subst e3
    exact riso_z
  · exact riso_s n p q hsp hsq hn h0 g he
end Go.Proofs.B

namespace Go.Proofs.B
open Go.AM Go
set_option maxRecDepth 100000
set_option maxHeartbeats 4000000
theorem val_ex (rs : List USet) (hl : longR rs) (hok : ∀ x ∈ rs, okW x.W) : ∃ b, Reads Tryz.prog 58 false [relV rs] (.bool b) ∧ Reads Tryz.prog 11 false [relV rs] (.bool b) ∧
    (b = true → ∃ t, rs = t.map SB ∧ Sq rs.length t ∧ rs.length ≤ 512 ∧ poB rs.length t = true ∧ relV rs = relB t) := by
  rcases rel_cases rs hok with ⟨t, ht, hs, hn, hp⟩ | hb
  · have e : relV rs = relB t := by rw [relB_SB, ← ht]
    have h1 := pvalid_g _ t hs hn
    have h2 := rval_g _ t hs hn
    rw [hp, ← e] at h1 h2
    exact ⟨true, h1, order_r _ _ h2, fun _ => ⟨t, ht, hs, hn, hp, e⟩⟩
  · obtain ⟨h1, h2⟩ := rval_bad rs hl hb
    exact ⟨false, h1, order_r _ _ h2, fun h => by cases h⟩
theorem maps_0 (ps qs : List USet) (hlp : longR ps) (hlq : longR qs) (h : greatB ps = true ∨ greatB qs = true ∨ 8 < ps.length ∧ ps.length ≤ 12) : Reads Tryz.prog 4 false [relV ps, relV qs] (.bool true) := by
  have ha := awake_r
  have hg1 := great_r ps hlp
  have hg2 := great_r qs hlq
  have hll := hlp.1
  have hln : (ps.map rowV).length = ps.length := by simp
  generalize greatB ps = gp at *
  generalize greatB qs = gq at *
  unfold relV at *
  refine Reads.body (rs := [.tmp 4]) Tryz.func4 rfl Tryz.ntmps4 rfl (by simp) ?_
  generalize hQr : retQ _ _ _ = Qr
  refine AW.sg [2,3] [2,3] trivial ?_
  refine AW.seq fun K1 hK1 => ?_
  refine AW.so 0 (fun ii => if ii = 0 then some (.reads false (.bool true)) else none) [2,3,10] [2,3] trivial ?_
  repeat with_reducible refine cj ?_ ?_
  all_goals try first | (exact ha) | omega | exact ent (by kernel_rfl)
  refine AW.cn ?_ ?_
  · intro hb
    exfalso; simp at hb
  · intro hb
    refine AW.skip ?_
    refine hK1 _ _ _ ?_; clear hK1
    refine AW.seq fun K2 hK2 => ?_
    refine AW.so 0 (fun ii => if ii = 1 then some (.reads false (.bool gp)) else if ii = 4 then some (.reads false (.bool gq)) else none) [2,3,28] [2,3] (@hln) ?_
    repeat with_reducible refine cj ?_ ?_
    all_goals try first | (first | exact hg1 | (intro hh; exact ⟨hh, hg2⟩)) | (intros; (repeat' apply And.intro) <;> first | assumption | (first | exact hg1 | (intro hh; exact ⟨hh, hg2⟩))) | omega | exact ent (by kernel_rfl) | (intro hgd; exact absurd hgd (by decide)) | rfl | (simp only [go_sem, reduceIte, reduceCtorEq, zA, zM, zE, zL, zD, zS, zP, zB, zI, zR, hln]; done) | (intro _hgd; simp_all [go_sem]; done)
    refine AW.cn ?_ ?_
    · intro hb
      refine AW.sg [4] [] trivial ?_
      rw [← hQr]
      refine AW.rt trivial ?_
      exact Wk.refl _
    · intro hb
      exfalso; rcases h with h | h | h; (subst h; simp at hb); (subst h; simp at hb); omega
theorem maps_e (ps qs : List USet) (hlp : longR ps) (hlq : longR qs) (h1 : greatB ps = false) (h2 : greatB qs = false) (h3 : ¬ (8 < ps.length ∧ ps.length ≤ 12)) (b c : Bool) (hb1 : Reads Tryz.prog 11 false [relV ps] (.bool b)) (hb2 : Reads Tryz.prog 11 false [relV qs] (.bool c)) (hbc : (b && c) = false)
    (hi : Reads Tryz.prog 26 false [relV ps, relV qs] (.tup [.nilsl, .int .i64 1])) : Reads Tryz.prog 4 false [relV ps, relV qs] (.bool true) := by
  have ha := awake_r
  have hg1 := great_r ps hlp
  have hg2 := great_r qs hlq
  rw [h1] at hg1
  rw [h2] at hg2
  have hll := hlp.1
  have hln : (ps.map rowV).length = ps.length := by simp
  unfold relV at *
  refine Reads.body (rs := [.tmp 4]) Tryz.func4 rfl Tryz.ntmps4 rfl (by simp) ?_
  generalize hQr : retQ _ _ _ = Qr
  refine AW.sg [2,3] [2,3] trivial ?_
  refine AW.seq fun K1 hK1 => ?_
  refine AW.so 0 (fun ii => if ii = 0 then some (.reads false (.bool true)) else none) [2,3,10] [2,3] trivial ?_
  repeat with_reducible refine cj ?_ ?_
  all_goals try first | (exact ha) | omega | exact ent (by kernel_rfl)
  refine AW.cn ?_ ?_
  · intro hb
    exfalso; simp at hb
  · intro hb
    refine AW.skip ?_
    refine hK1 _ _ _ ?_; clear hK1
    refine AW.seq fun K2 hK2 => ?_
    refine AW.so 0 (fun ii => if ii = 1 then some (.reads false (.bool false)) else if ii = 4 then some (.reads false (.bool false)) else none) [2,3,28] [2,3] (@hln) ?_
    repeat with_reducible refine cj ?_ ?_
    all_goals try first | (first | exact hg1 | (intro hh; exact ⟨hh, hg2⟩)) | (intros; (repeat' apply And.intro) <;> first | assumption | (first | exact hg1 | (intro hh; exact ⟨hh, hg2⟩))) | omega | exact ent (by kernel_rfl) | (intro hgd; exact absurd hgd (by decide)) | rfl | (simp only [go_sem, reduceIte, reduceCtorEq, zA, zM, zE, zL, zD, zS, zP, zB, zI, zR, hln]; done) | (intro _hgd; simp_all [go_sem]; done)
    refine AW.cn ?_ ?_
    · intro hb
      exfalso; omega
    · intro hb
      refine AW.skip ?_
      refine hK2 _ _ _ ?_; clear hK2
      refine AW.so 0 (fun ii => if ii = 2 then some (.reads false (.tup [.nilsl, .int .i64 1])) else none) [2,3,5,6] [2,3] trivial ?_
      repeat with_reducible refine cj ?_ ?_
      all_goals try first | (exact hi) | omega | exact ent (by kernel_rfl)
      refine AW.seq fun K3 hK3 => ?_
      refine AW.block ?_
      refine AW.so 0 (fun ii => if ii = 1 then some (.reads false (.bool b)) else if ii = 5 then some (.reads false (.bool c)) else none) [2,3,5,6,35] [2,3] trivial ?_
      repeat with_reducible refine cj ?_ ?_
      all_goals try first | (first | exact hb1 | (intro hh; exact ⟨hh, hb2⟩)) | (intros; (repeat' apply And.intro) <;> first | assumption | (first | exact hb1 | (intro hh; exact ⟨hh, hb2⟩))) | omega | exact ent (by kernel_rfl) | (intro hgd; exact absurd hgd (by decide)) | rfl | exact gD | (intro _hgd; simp_all [go_sem]; done)
      refine AW.cn ?_ ?_
      · intro hb
        refine AW.sg [4] [] trivial ?_
        repeat with_reducible refine cj ?_ ?_
        all_goals try first | omega | (intros; (repeat' apply And.intro) <;> first | assumption | omega | decide) | (intro hgd; exact absurd hgd (by decide)) | rfl | exact gD | (intro _hgd; simp_all [go_sem]; done)
        rw [← hQr]
        refine AW.rt trivial ?_
        exact Wk.of_eq (by simp)
      · intro hb
        exfalso; revert hb hbc; cases b <;> cases c <;> simp
theorem maps_b (ps qs : List USet) (hlp : longR ps) (hlq : longR qs) (h1 : greatB ps = false) (h2 : greatB qs = false) (h3 : ¬ (8 < ps.length ∧ ps.length ≤ 12)) (hb1 : Reads Tryz.prog 11 false [relV ps] (.bool true)) (hb2 : Reads Tryz.prog 11 false [relV qs] (.bool true)) (hbig : 12 < ps.length ∨ 12 < qs.length)
    (hi : Reads Tryz.prog 26 false [relV ps, relV qs] (.tup [.nilsl, .int .i64 9])) : Reads Tryz.prog 4 false [relV ps, relV qs] (.bool true) := by
  have ha := awake_r
  have hg1 := great_r ps hlp
  have hg2 := great_r qs hlq
  rw [h1] at hg1
  rw [h2] at hg2
  have hll := hlp.1
  have hlq1 := hlq.1
  have hln : (ps.map rowV).length = ps.length := by simp
  have hlm : (qs.map rowV).length = qs.length := by simp
  unfold relV at *
  refine Reads.body (rs := [.tmp 4]) Tryz.func4 rfl Tryz.ntmps4 rfl (by simp) ?_
  generalize hQr : retQ _ _ _ = Qr
  refine AW.sg [2,3] [2,3] trivial ?_
  refine AW.seq fun K1 hK1 => ?_
  refine AW.so 0 (fun ii => if ii = 0 then some (.reads false (.bool true)) else none) [2,3,10] [2,3] trivial ?_
  repeat with_reducible refine cj ?_ ?_
  all_goals try first | (exact ha) | omega | exact ent (by kernel_rfl)
  refine AW.cn ?_ ?_
  · intro hb
    exfalso; simp at hb
  · intro hb
    refine AW.skip ?_
    refine hK1 _ _ _ ?_; clear hK1
    refine AW.seq fun K2 hK2 => ?_
    refine AW.so 0 (fun ii => if ii = 1 then some (.reads false (.bool false)) else if ii = 4 then some (.reads false (.bool false)) else none) [2,3,28] [2,3] (@hln) ?_
    repeat with_reducible refine cj ?_ ?_
    all_goals try first | (first | exact hg1 | (intro hh; exact ⟨hh, hg2⟩)) | (intros; (repeat' apply And.intro) <;> first | assumption | (first | exact hg1 | (intro hh; exact ⟨hh, hg2⟩))) | omega | exact ent (by kernel_rfl) | (intro hgd; exact absurd hgd (by decide)) | rfl | (simp only [go_sem, reduceIte, reduceCtorEq, zA, zM, zE, zL, zD, zS, zP, zB, zI, zR, hln]; done) | (intro _hgd; simp_all [go_sem]; done)
    refine AW.cn ?_ ?_
    · intro hb
      exfalso; omega
    · intro hb
      refine AW.skip ?_
      refine hK2 _ _ _ ?_; clear hK2
      refine AW.so 0 (fun ii => if ii = 2 then some (.reads false (.tup [.nilsl, .int .i64 9])) else none) [2,3,5,6] [2,3] trivial ?_
      repeat with_reducible refine cj ?_ ?_
      all_goals try first | (exact hi) | omega | exact ent (by kernel_rfl)
      refine AW.seq fun K3 hK3 => ?_
      refine AW.block ?_
      refine AW.so 0 (fun ii => if ii = 1 then some (.reads false (.bool true)) else if ii = 5 then some (.reads false (.bool true)) else none) [2,3,5,6,35] [2,3] trivial ?_
      repeat with_reducible refine cj ?_ ?_
      all_goals try first | (first | exact hb1 | (intro hh; exact ⟨hh, hb2⟩)) | (intros; (repeat' apply And.intro) <;> first | assumption | (first | exact hb1 | (intro hh; exact ⟨hh, hb2⟩))) | omega | exact ent (by kernel_rfl) | (intro hgd; exact absurd hgd (by decide)) | rfl | exact gD | (intro _hgd; simp_all [go_sem]; done)
      refine AW.cn ?_ ?_
      · intro hb
        exfalso; simp at hb
      · intro hb
        refine AW.sg [2,3,5,6,51] [2,3] (e2 @hln @hlm) ?_
        repeat with_reducible refine cj ?_ ?_
        all_goals try first | omega | (intros; (repeat' apply And.intro) <;> first | assumption | omega | decide) | (intro hgd; exact absurd hgd (by decide)) | rfl | (simp only [go_sem, reduceIte, reduceCtorEq, zA, zM, zE, zL, zD, zS, zP, zB, zI, zR, hln, hlm]; done) | (intro _hgd; simp_all [go_sem]; done)
        refine AW.cn ?_ ?_
        · intro hb
          refine AW.sg [4] [] trivial ?_
          repeat with_reducible refine cj ?_ ?_
          all_goals try first | omega | (intros; (repeat' apply And.intro) <;> first | assumption | omega | decide) | (intro hgd; exact absurd hgd (by decide)) | rfl | exact gD | (intro _hgd; simp_all [go_sem]; done)
          rw [← hQr]
          refine AW.rt trivial ?_
          exact Wk.of_eq (by simp)
        · intro hb
          exfalso; omega
theorem maps_n (n m : Nat) (p q : List (List Bool)) (hsp : Sq n p) (hsq : Sq m q) (hn : n ≤ 8) (hm : m ≤ 12) (h1 : greatB (p.map SB) = false) (h2 : greatB (q.map SB) = false) (hb1 : Reads Tryz.prog 11 false [relB p] (.bool true)) (hb2 : Reads Tryz.prog 11 false [relB q] (.bool true))
    (hi : Reads Tryz.prog 26 false [relB p, relB q] (.tup [.nilsl, .int .i64 7])) (hri : Reads Tryz.prog 27 false [.rsl 1 (rowsR p), .rsl 1 (rowsR q)] (.tup [.nilsl, .bool false])) : Reads Tryz.prog 4 false [relB p, relB q] (.bool true) := by
  have ha := awake_r
  have hg1 := great_r _ (longR_SB hsp (by omega))
  have hg2 := great_r _ (longR_SB hsq (by omega))
  rw [h1, ← relB_SB] at hg1
  rw [h2, ← relB_SB] at hg2
  have hlp : (tabR p).length = n := by rw [tabR_len, hsp.len]
  have hlq : (tabR q).length = m := by rw [tabR_len, hsq.len]
  have ht1 := (table_r n p hsp (by omega)).old
  have ht2 := (table_r m q hsq (by omega)).old
  generalize rowsR p = P at *
  generalize rowsR q = Q at *
  unfold relB at *
  refine Reads.body (rs := [.tmp 4]) Tryz.func4 rfl Tryz.ntmps4 rfl (by simp) ?_
  generalize hQr : retQ _ _ _ = Qr
  refine AW.sg [2,3] [2,3] trivial ?_
  refine AW.seq fun K1 hK1 => ?_
  refine AW.so 0 (fun ii => if ii = 0 then some (.reads false (.bool true)) else none) [2,3,10] [2,3] trivial ?_
  repeat with_reducible refine cj ?_ ?_
  all_goals try first | (exact ha) | omega | exact ent (by kernel_rfl)
  refine AW.cn ?_ ?_
  · intro hb
    exfalso; simp at hb
  · intro hb
    refine AW.skip ?_
    refine hK1 _ _ _ ?_; clear hK1
    refine AW.seq fun K2 hK2 => ?_
    refine AW.so 0 (fun ii => if ii = 1 then some (.reads false (.bool false)) else if ii = 4 then some (.reads false (.bool false)) else none) [2,3,28] [2,3] (@hlp) ?_
    repeat with_reducible refine cj ?_ ?_
    all_goals try first | (first | exact hg1 | (intro hh; exact ⟨hh, hg2⟩)) | (intros; (repeat' apply And.intro) <;> first | assumption | (first | exact hg1 | (intro hh; exact ⟨hh, hg2⟩))) | omega | exact ent (by kernel_rfl) | (intro hgd; exact absurd hgd (by decide)) | rfl | (simp only [go_sem, reduceIte, reduceCtorEq, zA, zM, zE, zL, zD, zS, zP, zB, zI, zR, hlp]; done) | (intro _hgd; simp_all [go_sem]; done)
    refine AW.cn ?_ ?_
    · intro hb
      exfalso; omega
    · intro hb
      refine AW.skip ?_
      refine hK2 _ _ _ ?_; clear hK2
      refine AW.so 0 (fun ii => if ii = 2 then some (.reads false (.tup [.nilsl, .int .i64 7])) else none) [2,3,5,6] [2,3] trivial ?_
      repeat with_reducible refine cj ?_ ?_
      all_goals try first | (exact hi) | omega | exact ent (by kernel_rfl)
      refine AW.seq fun K3 hK3 => ?_
      refine AW.block ?_
      refine AW.so 0 (fun ii => if ii = 1 then some (.reads false (.bool true)) else if ii = 5 then some (.reads false (.bool true)) else none) [2,3,5,6,35] [2,3] trivial ?_
      repeat with_reducible refine cj ?_ ?_
      all_goals try first | (first | exact hb1 | (intro hh; exact ⟨hh, hb2⟩)) | (intros; (repeat' apply And.intro) <;> first | assumption | (first | exact hb1 | (intro hh; exact ⟨hh, hb2⟩))) | omega | exact ent (by kernel_rfl) | (intro hgd; exact absurd hgd (by decide)) | rfl | exact gD | (intro _hgd; simp_all [go_sem]; done)
      refine AW.cn ?_ ?_
      · intro hb
        exfalso; simp at hb
      · intro hb
        refine AW.sg [2,3,5,6,51] [2,3] (e2 @hlp @hlq) ?_
        repeat with_reducible refine cj ?_ ?_
        all_goals try first | omega | (intros; (repeat' apply And.intro) <;> first | assumption | omega | decide) | (intro hgd; exact absurd hgd (by decide)) | rfl | (simp only [go_sem, reduceIte, reduceCtorEq, zA, zM, zE, zL, zD, zS, zP, zB, zI, zR, hlp, hlq]; done) | (intro _hgd; simp_all [go_sem]; done)
        refine AW.cn ?_ ?_
        · intro hb
          exfalso; omega
        · intro hb
          refine AW.skip ?_
          refine hK3 _ _ _ ?_; clear hK3
          refine AW.sd mixed 0 (fun ii => if ii = 1 then some (.reads false (.rsl 1 P)) else if ii = 3 then some (.reads false (.rsl 1 Q)) else if ii = 4 then some (.reads false (.tup [.nilsl, .bool false])) else none) [5,6,7,8] [] trivial ?_
          repeat with_reducible refine cj ?_ ?_
          all_goals try first | (first | exact ht1 | exact ht2 | exact hri) | omega | exact chk (by kernel_rfl) | exact ent (by kernel_rfl)
          refine AW.seq fun K4 hK4 => ?_
          refine AW.sg [5,6,7,78] [] trivial ?_
          refine AW.cn ?_ ?_
          · intro hb
            refine AW.sg [4] [] trivial ?_
            repeat with_reducible refine cj ?_ ?_
            all_goals try first | omega | (intros; (repeat' apply And.intro) <;> first | assumption | omega | decide) | (intro hgd; exact absurd hgd (by decide)) | rfl | exact gD | (intro _hgd; simp_all [go_sem]; done)
            rw [← hQr]
            refine AW.rt trivial ?_
            exact Wk.of_eq (by simp)
          · intro hb
            exfalso; simp at hb
theorem maps_s (n m : Nat) (p q : List (List Bool)) (hsp : Sq n p) (hsq : Sq m q) (hn : n ≤ 8) (hm : m ≤ 12) (h1 : greatB (p.map SB) = false) (h2 : greatB (q.map SB) = false) (hb1 : Reads Tryz.prog 11 false [relB p] (.bool true)) (hb2 : Reads Tryz.prog 11 false [relB q] (.bool true)) (g : List Nat) (hgl : g.length ≤ 512)
    (hi : Reads Tryz.prog 26 false [relB p, relB q] (.tup [.rsl 1 (ints (nats g)), .int .i64 0])) (hri : Reads Tryz.prog 27 false [.rsl 1 (rowsR p), .rsl 1 (rowsR q)] (.tup [.rsl 1 (ints (nats g)), .bool true])) : Reads Tryz.prog 4 false [relB p, relB q] (.bool true) := by
  have ha := awake_r
  have hg1 := great_r _ (longR_SB hsp (by omega))
  have hg2 := great_r _ (longR_SB hsq (by omega))
  rw [h1, ← relB_SB] at hg1
  rw [h2, ← relB_SB] at hg2
  have heq := eqi_refl (nats g) (by rw [nats_len]; omega)
  have hlp : (tabR p).length = n := by rw [tabR_len, hsp.len]
  have hlq : (tabR q).length = m := by rw [tabR_len, hsq.len]
  have ht1 := (table_r n p hsp (by omega)).old
  have ht2 := (table_r m q hsq (by omega)).old
  generalize rowsR p = P at *
  generalize rowsR q = Q at *
  unfold relB at *
  refine Reads.body (rs := [.tmp 4]) Tryz.func4 rfl Tryz.ntmps4 rfl (by simp) ?_
  generalize hQr : retQ _ _ _ = Qr
  refine AW.sg [2,3] [2,3] trivial ?_
  refine AW.seq fun K1 hK1 => ?_
  refine AW.so 0 (fun ii => if ii = 0 then some (.reads false (.bool true)) else none) [2,3,10] [2,3] trivial ?_
  repeat with_reducible refine cj ?_ ?_
  all_goals try first | (exact ha) | omega | exact ent (by kernel_rfl)
  refine AW.cn ?_ ?_
  · intro hb
    exfalso; simp at hb
  · intro hb
    refine AW.skip ?_
    refine hK1 _ _ _ ?_; clear hK1
    refine AW.seq fun K2 hK2 => ?_
    refine AW.so 0 (fun ii => if ii = 1 then some (.reads false (.bool false)) else if ii = 4 then some (.reads false (.bool false)) else none) [2,3,28] [2,3] (@hlp) ?_
    repeat with_reducible refine cj ?_ ?_
    all_goals try first | (first | exact hg1 | (intro hh; exact ⟨hh, hg2⟩)) | (intros; (repeat' apply And.intro) <;> first | assumption | (first | exact hg1 | (intro hh; exact ⟨hh, hg2⟩))) | omega | exact ent (by kernel_rfl) | (intro hgd; exact absurd hgd (by decide)) | rfl | (simp only [go_sem, reduceIte, reduceCtorEq, zA, zM, zE, zL, zD, zS, zP, zB, zI, zR, hlp]; done) | (intro _hgd; simp_all [go_sem]; done)
    refine AW.cn ?_ ?_
    · intro hb
      exfalso; omega
    · intro hb
      refine AW.skip ?_
      refine hK2 _ _ _ ?_; clear hK2
      refine AW.so 0 (fun ii => if ii = 2 then some (.reads false (.tup [.rsl 1 (ints (nats g)), .int .i64 0])) else none) [2,3,5,6] [2,3] trivial ?_
      repeat with_reducible refine cj ?_ ?_
      all_goals try first | (exact hi) | omega | exact ent (by kernel_rfl)
      refine AW.seq fun K3 hK3 => ?_
      refine AW.block ?_
      refine AW.so 0 (fun ii => if ii = 1 then some (.reads false (.bool true)) else if ii = 5 then some (.reads false (.bool true)) else none) [2,3,5,6,35] [2,3] trivial ?_
      repeat with_reducible refine cj ?_ ?_
      all_goals try first | (first | exact hb1 | (intro hh; exact ⟨hh, hb2⟩)) | (intros; (repeat' apply And.intro) <;> first | assumption | (first | exact hb1 | (intro hh; exact ⟨hh, hb2⟩))) | omega | exact ent (by kernel_rfl) | (intro hgd; exact absurd hgd (by decide)) | rfl | exact gD | (intro _hgd; simp_all [go_sem]; done)
      refine AW.cn ?_ ?_
      · intro hb
        exfalso; simp at hb
      · intro hb
        refine AW.sg [2,3,5,6,51] [2,3] (e2 @hlp @hlq) ?_
        repeat with_reducible refine cj ?_ ?_
        all_goals try first | omega | (intros; (repeat' apply And.intro) <;> first | assumption | omega | decide) | (intro hgd; exact absurd hgd (by decide)) | rfl | (simp only [go_sem, reduceIte, reduceCtorEq, zA, zM, zE, zL, zD, zS, zP, zB, zI, zR, hlp, hlq]; done) | (intro _hgd; simp_all [go_sem]; done)
        refine AW.cn ?_ ?_
        · intro hb
          exfalso; omega
        · intro hb
          refine AW.skip ?_
          refine hK3 _ _ _ ?_; clear hK3
          refine AW.sd mixed 0 (fun ii => if ii = 1 then some (.reads false (.rsl 1 P)) else if ii = 3 then some (.reads false (.rsl 1 Q)) else if ii = 4 then some (.reads false (.tup [.rsl 1 (ints (nats g)), .bool true])) else none) [5,6,7,8] [] trivial ?_
          repeat with_reducible refine cj ?_ ?_
          all_goals try first | (first | exact ht1 | exact ht2 | exact hri) | omega | exact chk (by kernel_rfl) | exact ent (by kernel_rfl)
          refine AW.seq fun K4 hK4 => ?_
          refine AW.sg [5,6,7,78] [] trivial ?_
          refine AW.cn ?_ ?_
          · intro hb
            exfalso; simp at hb
          · intro hb
            refine AW.skip ?_
            refine hK4 _ _ _ ?_; clear hK4
            refine AW.so 0 (fun ii => if ii = 5 then some (.reads false (.bool true)) else none) [4] [] trivial ?_
            repeat with_reducible refine cj ?_ ?_
            all_goals try first | ((intro hh; exact ⟨hh, heq⟩)) | (intros; (repeat' apply And.intro) <;> first | assumption | ((intro hh; exact ⟨hh, heq⟩))) | omega | exact ent (by kernel_rfl) | (intro hgd; exact absurd hgd (by decide)) | rfl | exact gD | (intro _hgd; simp_all [go_sem]; done)
            rw [← hQr]
            refine AW.rt trivial ?_
            exact Wk.of_eq (by simp)
theorem law_maps (ps qs : List USet) (hlp : longR ps) (hlq : longR qs) (hokp : ∀ x ∈ ps, okW x.W) (hokq : ∀ x ∈ qs, okW x.W) : Reads Tryz.prog 4 false [relV ps, relV qs] (.bool true) := by
  by_cases h : greatB ps = true ∨ greatB qs = true ∨ 8 < ps.length ∧ ps.length ≤ 12
  · exact maps_0 ps qs hlp hlq h
  · have h1 : greatB ps = false := by cases e : greatB ps; rfl; exact absurd (.inl e) h
    have h2 : greatB qs = false := by cases e : greatB qs; rfl; exact absurd (.inr (.inl e)) h
    have h3 : ¬ (8 < ps.length ∧ ps.length ≤ 12) := fun e => h (.inr (.inr e))
    obtain ⟨b, hv1, ho1, hb1⟩ := val_ex ps hlp hokp
    obtain ⟨c, hv2, ho2, hb2⟩ := val_ex qs hlq hokq
    cases hbc : b && c
    · exact maps_e ps qs hlp hlq h1 h2 h3 b c ho1 ho2 hbc (iso_e _ _ b c hv1 hv2 hbc)
    · rw [Bool.and_eq_true] at hbc
      obtain ⟨rfl, rfl⟩ := hbc
      by_cases hbig : 12 < ps.length ∨ 12 < qs.length
      · exact maps_b ps qs hlp hlq h1 h2 h3 ho1 ho2 hbig (iso_big _ _ hv1 hv2 (by simpa using hbig))
      · obtain ⟨p, hp1, hsp, hnp, hpp, ep⟩ := hb1 rfl
        obtain ⟨q, hq1, hsq, hnq, hpq, eq⟩ := hb2 rfl
        by_cases hne : ps.length = qs.length
        · rw [← hne] at hsq hpq
          rw [ep, eq]
          rw [ep] at ho1 hv1
          rw [eq] at ho2 hv2
          rw [hp1] at h1
          rw [hq1] at h2
          rcases he : extI p q ps.length ps.length [] with _ | g
          · exact maps_n _ _ p q hsp hsq (by omega) (by omega) h1 h2 ho1 ho2 (iso_none _ p q hsp hsq (by omega) hpp hpq he) (riso_none _ p q hsp hsq hnp he)
          · exact maps_s _ _ p q hsp hsq (by omega) (by omega) h1 h2 ho1 ho2 g (by have := extI_len _ _ _ _ _ _ he; simp at this; omega) (iso_some _ p q hsp hsq (by omega) hpp hpq g he) (riso_some _ p q hsp hsq hnp g he)
        · have e1 : (tabR p).length = ps.length := by rw [tabR_len, hsp.len]
          have e2 : (tabR q).length = qs.length := by rw [tabR_len, hsq.len]
          rw [ep, eq]
          rw [ep] at ho1 hv1
          rw [eq] at ho2 hv2
          rw [hp1] at h1
          rw [hq1] at h2
          exact maps_n _ _ p q hsp hsq (by omega) (by omega) h1 h2 ho1 ho2 (iso_ne _ _ hv1 hv2 (by omega) (by omega) (by omega)) (riso_ne _ _ (by rw [rowsR_len, hsp.len]; omega) (by rw [rowsR_len, hsq.len]; omega) (by rw [rowsR_len, rowsR_len, hsp.len, hsq.len]; exact hne))
end Go.Proofs.B

/- The shapes of arguments. -/
namespace Go.AM
theorem fit_int {P : Program} {t : TypeId} {k : IntKind} (hu : P.underlying t = some (.int k)) {f : Nat} {x : List AV} (h : Fit P f t x) : ∃ n, x = [.int k n] ∧ k.min ≤ n ∧ n ≤ k.max := by
  cases f with
  | zero => exact h.elim
  | succ f => unfold Fit at h; rw [hu] at h; exact h
theorem fit_slice {P : Program} {t e : TypeId} {m : Nat} (hu : P.underlying t = some (.slice e)) (hm : P.cellsOf e = m) (h0 : m ≠ 0) {f : Nat} {x : List AV} (h : Fit P f t x) : ∃ es f', x = [.rsl m es] ∧ es.length ≤ maxLen ∧ ∀ y ∈ es, Fit P f' e y := by
  cases f with
  | zero => exact h.elim
  | succ f =>
    unfold Fit at h; rw [hu] at h
    rcases h with h | ⟨es, h1, h2, h3⟩
    · exact absurd (hm ▸ h) h0
    · rw [hm] at h1; exact ⟨es, f, h1, h2, fun y hy => (h3 y hy).2⟩
theorem fit_struct {P : Program} {t : TypeId} {fs : Array Field} (hu : P.underlying t = some (.struct fs)) {f : Nat} {x : List AV} (h : Fit P f t x) : ∃ f' parts, x = List.flatten parts ∧ F2 (fun (fl : Field) p => Fit P f' fl.type p) fs.toList parts := by
  cases f with
  | zero => exact h.elim
  | succ f =>
    unfold Fit at h; rw [hu] at h
    obtain ⟨parts, h1, h2⟩ := h
    exact ⟨f, parts, h1, forall2_imp (fun _ _ h => h.2) h2⟩
theorem F2.two {α β : Type} {R : α → β → Prop} {a b : α} {l : List β} (h : F2 R [a, b] l) : ∃ x y, l = [x, y] ∧ R a x ∧ R b y := by
  cases h with | cons h1 t => cases t with | cons h2 t => cases t with | nil => exact ⟨_, _, rfl, h1, h2⟩
theorem exists_mapP {α β : Type} {f : α → β} {p : α → Prop} : ∀ {l : List β}, (∀ x ∈ l, ∃ a, x = f a ∧ p a) → ∃ m : List α, l = m.map f ∧ ∀ a ∈ m, p a
  | [], _ => ⟨[], rfl, fun _ h => by cases h⟩
  | x :: l, h => by
    obtain ⟨a, rfl, ha⟩ := h x (List.mem_cons_self ..)
    obtain ⟨m, rfl, hm⟩ := exists_mapP fun y hy => h y (List.mem_cons_of_mem _ hy)
    exact ⟨a :: m, rfl, fun b hb => by rcases List.mem_cons.1 hb with rfl | hb; exact ha; exact hm b hb⟩
theorem okW_of {W : List Int} (h : ∀ w ∈ W, 0 ≤ w ∧ w ≤ 18446744073709551615) : okW W := fun i => by
  by_cases hi : i < W.length
  · have := h _ (mem_getD hi 0); omega
  · rw [List.getD_eq_getElem?_getD, List.getElem?_eq_none (by omega)]; simp
end Go.AM

/- A laid table, as the machine's package variable. -/
namespace Go.AM
theorem rptr_of_laid {P : Program} {n : String} {g : Nat} {t e : TypeId} {k : IntKind} {L : List Int} {W : World} (hg : P.globalNamed n = some g) (ht : (P.globals[g]?).map (·.type) = some t) (hu : P.underlying t = some (.array L.length e))
    (hc : P.cellsOf e = 1) (hc2 : P.cellsOf t = L.length) (hu2 : P.underlying e = some (.int k)) (hL : L ≠ []) (h : laidMet P [(n, .agg (L.map fun i => .lit (.int k i)))] W) : RelP (immF W fun _ => False) W (.rptr (L.map (AV.int k))) (.pointer (some ⟨g, 0, none⟩)) := by
  obtain ⟨ps, ⟨g0, t0, cs0, f0, p0, q0, hg0, ht0, hv0, hd0, _, _⟩, _, _⟩ := h
  obtain rfl := Option.some.inj (hg.symm.trans hg0)
  obtain rfl := Option.some.inj (ht.symm.trans ht0)
  obtain ⟨xs, m, rfl, hx, hlen, hn, hel⟩ := DataW.trod_array hu hd0
  have hcell : ∀ j, j < L.length → W.cell? ⟨g, j, none⟩ = some (.int k (L.getD j 0)) := fun j hj => by
    have h0 := hel j hj
    rw [hc, Nat.mul_one] at h0
    have hjx : j < xs.length := by omega
    rw [List.getElem?_eq_getElem hjx] at h0
    obtain ⟨z, e1, e2, _⟩ := DataW.trod_int hu2 h0
    have hxs : xs.map (·.1) = L.map fun i => .lit (.int k i) := by
      simp only [Prod.mk.injEq, DataW.agg.injEq] at hx
      exact hx.1.symm
    have hzj : (xs.map (·.1))[j]? = (L.map fun i => (.lit (.int k i) : DataW Unit))[j]? := by rw [hxs]
    rw [List.getElem?_map, List.getElem?_map, List.getElem?_eq_getElem hjx, List.getElem?_eq_getElem hj, e2] at hzj
    simp only [Option.map_some, Option.some.injEq, DataW.lit.injEq, Lit.int.injEq] at hzj
    have hz : z = L.getD j 0 := by rw [hzj.2]; simp [List.getD_eq_getElem?_getD, hj]
    have hcs : cs0[j]? = some (.int k z) := by
      have hl : cs0.toList.length = L.length := by rw [hlen, hc2]
      have hd : cs0.toList.drop j = cs0.toList[j]'(by omega) :: cs0.toList.drop (j + 1) := List.drop_eq_getElem_cons (by omega)
      rw [hd] at e1
      simp only [List.take_succ_cons, List.take_zero, List.cons.injEq, and_true] at e1
      rw [← Array.getElem?_toList, List.getElem?_eq_getElem (by omega), e1]
    rw [World.var?_cell hg hv0 j, hcs, hz]
  have hlt : g < W.heap.size := by
    cases L with
    | nil => exact absurd rfl hL
    | cons a l =>
      have := hcell 0 (by simp)
      unfold World.cell? at this
      cases hh : W.heap[g]? with
      | none => simp [hh] at this
      | some o => exact heap_lt hh
  refine .rptr _ g 0 (fun j => .int k (L.getD j 0)) ⟨hlt, fun h => h⟩ (fun j hj => ?_) (fun j hj => ?_)
  · rw [List.length_map] at hj
    rw [Nat.zero_add]
    exact hcell j hj
  · rw [List.length_map] at hj
    have e : (L.map (AV.int k)).getD j .any = .int k (L.getD j 0) := by simp [List.getD_eq_getElem?_getD, hj]
    rw [e]
    exact .int _ _
end Go.AM

/- The shapes of the birkhoff laws' arguments. -/
namespace Go.AM
open Go.Proofs
theorem fit_words {f : Nat} {x : List AV} (h : Fit Tryz.prog f 39 x) : ∃ W : List Int, x = [.rsl 1 (words W)] ∧ W.length ≤ 9223372036854775807 ∧ okW W := by
  obtain ⟨es, f2, rfl, h5, h6⟩ := fit_slice (m := 1) Tryz.underlying39 (by kernel_rfl) (by decide) h
  obtain ⟨ws, rfl, hw⟩ := exists_mapP (f := fun x : Int => [AV.int .u64 x]) (p := fun w => 0 ≤ w ∧ w ≤ 18446744073709551615) fun y hy => by
    obtain ⟨n, e, h1, h2⟩ := fit_int Tryz.underlying45 (h6 y hy)
    exact ⟨n, e, by simpa [IntKind.min, IntKind.signed] using h1, by simpa [IntKind.max, IntKind.signed, IntKind.bits] using h2⟩
  exact ⟨ws, rfl, by simpa [maxLen] using h5, okW_of hw⟩
theorem fit_set {f : Nat} {x : List AV} (h : Fit Tryz.prog f 41 x) : ∃ y : USet, x = rowV y ∧ y.W.length ≤ 9223372036854775807 ∧ okW y.W := by
  obtain ⟨f', parts, rfl, h2⟩ := fit_struct Tryz.underlying41 h
  obtain ⟨a, b, rfl, h3, h4⟩ := F2.two h2
  obtain ⟨i, rfl, _⟩ := fit_int Tryz.underlying3 h3
  obtain ⟨W, rfl, h5, h6⟩ := fit_words h4
  exact ⟨⟨i, W⟩, rfl, h5, h6⟩
theorem F2.one {α β : Type} {R : α → β → Prop} {a : α} {l : List β} (h : F2 R [a] l) : ∃ x, l = [x] ∧ R a x := by
  cases h with | cons h1 t => cases t with | nil => exact ⟨_, rfl, h1⟩
theorem fit_rel {f : Nat} {x : List AV} (h : Fit Tryz.prog f 24 x) : ∃ rs : List USet, x = [.rsl 2 (rs.map rowV)] ∧ (rs.length ≤ 9223372036854775807 ∧ ∀ y ∈ rs, y.W.length ≤ 9223372036854775807) ∧ ∀ y ∈ rs, okW y.W := by
  obtain ⟨f', parts, rfl, h2⟩ := fit_struct Tryz.underlying24 h
  obtain ⟨a, rfl, h3⟩ := F2.one h2
  obtain ⟨es, f2, rfl, h5, h6⟩ := fit_slice (m := 2) Tryz.underlying22 (by kernel_rfl) (by decide) h3
  obtain ⟨rs, rfl, hr⟩ := exists_mapP (f := rowV) (p := fun y => y.W.length ≤ 9223372036854775807 ∧ okW y.W) fun y hy => fit_set (h6 y hy)
  exact ⟨rs, rfl, ⟨by simpa [maxLen] using h5, fun y hy => (hr y hy).1⟩, fun y hy => (hr y hy).2⟩
theorem laidMet_tail {P : Program} {W : World} {x : String × DataW Unit} {l : List (String × DataW Unit)} (h : laidMet P (x :: l) W) : laidMet P l W := by
  obtain ⟨ps, ⟨g, t, cs, f, p, q, hg, ht, hv, hd, hr, rfl⟩, hn, hc⟩ := h
  exact ⟨q, hr, (List.nodup_append.1 hn).2.1, fun b off hm => hc b off (List.mem_append.2 (.inr hm))⟩
theorem laidMet_head {P : Program} {W : World} {x : String × DataW Unit} {l : List (String × DataW Unit)} (h : laidMet P (x :: l) W) : laidMet P [x] W := by
  obtain ⟨ps, ⟨g, t, cs, f, p, q, hg, ht, hv, hd, hr, rfl⟩, hn, hc⟩ := h
  refine ⟨MemPlace.row ⟨g, 0, none⟩ cs.size ++ p ++ [], ⟨g, t, cs, f, p, [], hg, ht, hv, hd, rfl, rfl⟩, ?_, fun b off hm => ?_⟩
  · rw [List.append_nil]; exact (List.nodup_append.1 hn).1
  · rw [List.append_nil] at hm; exact hc b off (List.mem_append.2 (.inl hm))
theorem pgl {W : World} (h : laidMetH Tryz.prog [("math/bits.deBruijn32tab", YtppocnbagombeaaGreatDoor.Rows.laid_math_bits_deBruijn32tab), ("math/bits.deBruijn64tab", YtppocnbagombeaaGreatDoor.Rows.laid_math_bits_deBruijn64tab), ("internal/strconv.uint64pow10", YtppocnbagombeaaGreatDoor.Rows.laid_internal_strconv_uint64pow10)] W) : GL (immF W fun _ => False) W := fun g cs e => by
  rw [MakeChecks.laidMetH_plain _ _ _ (by rfl)] at h
  have h2 := laidMet_head (laidMet_tail h)
  cases g with
  | zero =>
    rw [globA_aux] at e
    obtain rfl := Option.some.inj e
    exact rptr_of_laid (L := tzTab) (by kernel_rfl : Tryz.prog.globalNamed "math/bits.deBruijn64tab" = some 0) (by kernel_rfl : (Tryz.prog.globals[0]?).map (·.type) = some 136) (e := 5) Tryz.underlying136 (by kernel_rfl) (by kernel_rfl) Tryz.underlying5 (by decide) h2
  | succ g => cases e
theorem pmet (os : Os) (args : Array Value) : laidMetH Tryz.prog [("math/bits.deBruijn32tab", YtppocnbagombeaaGreatDoor.Rows.laid_math_bits_deBruijn32tab), ("math/bits.deBruijn64tab", YtppocnbagombeaaGreatDoor.Rows.laid_math_bits_deBruijn64tab), ("internal/strconv.uint64pow10", YtppocnbagombeaaGreatDoor.Rows.laid_internal_strconv_uint64pow10)] ((World.doorLaid Tryz.prog 400 os).forCall (fun _ _ => 0) ⟨#[], args, []⟩).memory :=
  laidMetH_of_parts3 (fuel := 8) (laidMet_of_run' 8 (by kernel_rfl) (by kernel_rfl)) (by kernel_rfl) (by kernel_rfl)
end Go.AM

