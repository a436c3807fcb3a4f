/- Lemmas and contracts, part 5: an abstract machine over the model, and the functions that the statement reaches. -/
import Derived.Test.YtljcffhjpcdpeaaDoorExtensionFirstP4
import Derived.Carry
import Derived.RowKit
import Derived.OpenShut
import Derived.Below
import Derived.ChangeSame
import Derived.JoinedOf
import Derived.Handed
import Derived.MakeChecks
import Derived.LaidMore
import Derived.Test.YtljcffhjpcdpeaaDoorRows
set_option linter.unusedVariables false
set_option linter.unusedSimpArgs false
open Nat renaming reduceAdd → zA, reduceMul → zM, reduceEqDiff → zE, reduceLT → zL, reduceLeDiff → zD, reduceSub → zS, reducePow → zP, reduceBEq → zB
open Int renaming reduceToNat → zI
open List renaming reduceReplicate → zR
namespace Go.Proofs.X
open Go.AM Go
set_option maxRecDepth 100000
set_option maxHeartbeats 4000000
theorem keyOk9 (b : ByteArray) : keyOk Tryd.prog 9 (.str b) = true := by
  simp only [keyOk, Tryd.underlying9]
theorem table_u (n : Nat) (t : List (List Bool)) (hs : Sq n t) (hn : n ≤ 512) (hp : poB n t = true) (hbud : cntL (belL n t) n n ≤ 5000) :
    Upd Tryd.prog 67 [] [relB t] (fun k => .tup [.mp ⟨0, k, none⟩, .int .i64 0]) (fun k => [(0, some ⟨k, k, mapSz, waysE (belL n t) n⟩)]) := by
  have hv := pvalid_g n t hs hn
  rw [hp] at hv
  have ho := open_u n t hs hn
  have hok := belL_ok t hn
  have hkey := fun d hd => key_r n (belL n t) d hd hn
  have hload := fun d d2 hd hd2 g v => load_u (bel := belL n t) hn d d2 hd hd2 g v
  have hnext := fun d hd i hi => next_r hok d hd i hi
  have hfree : ∀ (S : List Bool) (x : Nat), freeL (belL n t) S x = true → S.getD x false = false := fun S x h => by
    unfold freeL at h
    cases e : S.getD x false with
    | false => rfl
    | true => rw [e] at h; simp at h
  unfold stO stV relB at *
  generalize belL n t = bel at *
  unfold waysE
  refine Upd.of_body (rs := [.tmp 2, .tmp 3]) Tryd.func67 rfl Tryd.ntmps67 rfl (by simp) ?_
  intro k0 k hk0 hk1
  generalize hQr : retQ _ _ _ = Qr
  refine AW.seq fun K1 hK1 => ?_
  refine AW.regionK 100 (fun _ => none) [1] [101] ?_
  simp only [go_sem, reduceIte, reduceCtorEq, zA, zM, zE, zL, zD, zS, zP, zB, zI, zR]
  repeat with_reducible refine cj ?_ ?_
  all_goals try first | omega
  refine hK1 _ _ _ ?_; clear hK1
  refine AW.seq fun K2 hK2 => ?_
  refine AW.seq fun K3 hK3 => ?_
  refine AW.regionK 100 (fun ii => if ii = 1 then some (.reads false (.bool true)) else none) [1, 21] [101] ?_
  simp only [go_sem, reduceIte, reduceCtorEq, zA, zM, zE, zL, zD, zS, zP, zB, zI, zR]
  repeat with_reducible refine cj ?_ ?_
  all_goals try first | (exact hv) | omega | exact ent (by kernel_rfl)
  refine hK3 _ _ _ ?_; clear hK3
  refine AW.cond rfl (by simp only [go_sem, reduceIte, reduceCtorEq, zA, zM, zE, zL, zD, zS, zP, zB, zI, zR]) ?_ ?_
  · intro hb
    try simp only [hB, decide_eq_true_eq, decide_eq_false_iff_not] at hb
    exfalso; simp at hb
  · intro hb
    try simp only [hB, decide_eq_true_eq, decide_eq_false_iff_not] at hb
    refine AW.skip ?_
    refine hK2 _ _ _ ?_; clear hK2
    refine AW.seq fun K4 hK4 => ?_
    refine AW.regionK 100 (fun ii => if ii = 1 then some (.upd [] (fun k => [(0, some ⟨k, k, 3, [[.int .i64 n, .rsl 1 (lisR bel), .osl 1 (bools (List.replicate n false))]]⟩)]) (fun k => .ptr ⟨0, k, none⟩ 0 0)) else none) [4] [123] ?_
    simp only [go_sem, reduceIte, reduceCtorEq, zA, zM, zE, zL, zD, zS, zP, zB, zI, zR]
    repeat with_reducible refine cj ?_ ?_
    all_goals try first | (exact ho) | omega | exact ent (by kernel_rfl)
    refine hK4 _ _ _ ?_; clear hK4
    refine AW.seq fun K5 hK5 => ?_
    refine AW.regionK 100 (fun ii => if ii = 1 then some (.reads true (.str (keyS (List.replicate n false)))) else none) [4, 5] [123, 126, 127] ?_
    simp only [go_sem, reduceIte, reduceCtorEq, zA, zM, zE, zL, zD, zS, zP, zB, zI, zR]
    repeat with_reducible refine cj ?_ ?_
    all_goals try first | (exact Reads.flat (hkey (List.replicate n false) (by simp)) rfl) | omega | exact ent (by kernel_rfl)
    refine hK5 _ _ _ ?_; clear hK5
    refine AW.frzCellK [126] 5 127 0 0 ?_
    simp only [go_sem, reduceIte, zE]
    refine ⟨rfl, by decide, by decide, by decide, ?_⟩
    refine AW.keep [4, 5] [123, 127] ?_
    simp only [go_sem, reduceIte, zE]
    refine AW.seq fun K6 hK6 => ?_
    refine AW.regionK 100 (fun _ => none) [4, 5, 6] [123, 127] ?_
    simp only [go_sem, reduceIte, reduceCtorEq, zA, zM, zE, zL, zD, zS, zP, zB, zI, zR]
    repeat with_reducible refine cj ?_ ?_
    all_goals try first | omega
    refine hK6 _ _ _ ?_; clear hK6
    refine AW.seq fun K7 hK7 => ?_
    refine AW.seq fun K8 hK8 => ?_
    refine AW.regionK 100 (fun _ => none) [4, 5, 6, 31, 32] [123, 127] ?_
    simp only [go_sem, reduceIte, reduceCtorEq, zA, zM, zE, zL, zD, zS, zP, zB, zI, zR]
    repeat with_reducible refine cj ?_ ?_
    all_goals try first | omega
    refine hK8 _ _ _ ?_; clear hK8
    refine AW.block ?_
    refine AW.loopE (fun mm ee ss kk => ∃ (j : Nat) (D : List Bool) (g3 v3 g5 v5 : Nat), n - j = mm ∧ ee = [(4, .ptr ⟨123, g3, none⟩ 0 0), (5, .sl ⟨127, g5, none⟩ 0 (j + 1) none), (6, .int .i64 (cntL bel n j : Nat)), (31, .int .i64 n), (32, .int .i64 (j : Nat))] ∧ ss = [(123, some ⟨g3, v3, 3, [[.int .i64 n, .rsl 1 (lisR bel), .osl 1 (bools D)]]⟩), (127, some ⟨g5, v5, 1, lvR (lvTo bel n j)⟩)] ∧ (j ≤ n ∧ D.length = n ∧ cntL bel n j ≤ 5000)) ?_ ?_
    · refine ⟨_, 0, List.replicate n false, ?_, ?_, ?_, ?_, rfl, ?henv, ?hstore, ?hst⟩
      case henv =>
        repeat' (first | rfl | refine env_cons ?_ ?_ | refine st_cons ?_ ?_ ?_ ?_ | refine int_eq ?_ | refine bool_eq ?_ | refine rsl_eq ?_ | refine osl_eq ?_ | refine sl_eq ?_ ?_ ?_ | refine ptr_eq ?_ ?_ ?_ | refine agg_eq ?_ | refine es_cons ?_ ?_ | refine row_cons ?_ ?_)
        all_goals (first | (simp; done) | omega | (simp; omega))
      case hstore =>
        repeat' (first | rfl | refine env_cons ?_ ?_ | refine st_cons ?_ ?_ ?_ ?_ | refine int_eq ?_ | refine bool_eq ?_ | refine rsl_eq ?_ | refine osl_eq ?_ | refine sl_eq ?_ ?_ ?_ | refine ptr_eq ?_ ?_ ?_ | refine agg_eq ?_ | refine es_cons ?_ ?_ | refine row_cons ?_ ?_)
        all_goals (first | (simp; done) | omega | (simp; omega))
      case hst =>
        exact ⟨by omega, by simp, by simp [cntL]⟩
    rintro mm ee ss kk ⟨j, D, g3, v3, g5, v5, rfl, rfl, rfl, hI⟩
    generalize hQl1 : thenQ _ _ = Ql1
    obtain ⟨hj, hD, hc⟩ := hI
    refine AW.seq fun K9 hK9 => ?_
    refine AW.regionK 100 (fun _ => none) [4, 5, 6, 31, 32, 33] [123, 127] ?_
    simp only [go_sem, reduceIte, reduceCtorEq, zA, zM, zE, zL, zD, zS, zP, zB, zI, zR]
    repeat with_reducible refine cj ?_ ?_
    all_goals try first | omega
    refine hK9 _ _ _ ?_; clear hK9
    refine AW.seq fun K10 hK10 => ?_
    refine AW.cond rfl (by simp only [go_sem, reduceIte, reduceCtorEq, zA, zM, zE, zL, zD, zS, zP, zB, zI, zR]) ?_ ?_
    · intro hb
      try simp only [hB, decide_eq_true_eq, decide_eq_false_iff_not] at hb
      have hj2 : j < n := by omega
      have hlg := lvR_get (lvTo_get (bel := bel) (n := n) (Nat.le_refl j))
      have hll := lvR_len (lvTo bel n j)
      rw [lvTo_len] at hll
      have hml := fun S => lvAt_len (bel := bel) (n := n) (j := j) (S := S)
      have hle := lvAt_le bel n j
      have hnt := nextL_take bel n (lvAt bel n j)
      have hcs : cntL bel n (j + 1) = cntL bel n j + (nextL bel n (lvAt bel n j)).length := rfl
      have hls := lvTo_succ bel n j
      have hl1 : lvAt bel n (j + 1) = nextL bel n (lvAt bel n j) := rfl
      have hcm := cntL_mono bel n (j + 1) n (by omega)
      have hns := fun k S => nextL_succ bel n (prev := lvAt bel n j) (k := k) (S := S)
      have hj1 : (((j + 1 : Nat) : Int) - 1).toNat = j := by omega
      generalize hL : lvAt bel n j = L at *
      refine AW.skip ?_
      refine hK10 _ _ _ ?_; clear hK10
      refine AW.seq fun K11 hK11 => ?_
      refine AW.block ?_
      refine AW.seq fun K12 hK12 => ?_
      refine AW.regionK 100 (fun _ => none) [4, 5, 6, 7, 31, 32] [123, 127, 134] ?_
      simp only [go_sem, reduceIte, reduceCtorEq, zA, zM, zE, zL, zD, zS, zP, zB, zI, zR]
      repeat with_reducible refine cj ?_ ?_
      all_goals try first | omega
      refine hK12 _ _ _ ?_; clear hK12
      refine AW.seq fun K13 hK13 => ?_
      refine AW.regionK 100 (fun _ => none) [4, 5, 6, 7, 8, 31, 32] [123, 127, 134] ?_
      simp only [go_sem, reduceIte, reduceCtorEq, zA, zM, zE, zL, zD, zS, zP, zB, zI, zR]
      repeat with_reducible refine cj ?_ ?_
      all_goals try first | omega
      refine hK13 _ _ _ ?_; clear hK13
      refine AW.nilOwn 8 200 1 rfl ?_
      simp only [go_sem, reduceIte, zE]
      refine AW.keep [4, 5, 6, 7, 8, 31, 32] [123, 127, 134, 200] ?_
      simp only [go_sem, reduceIte, zE]
      refine AW.seq fun K14 hK14 => ?_
      refine AW.seq fun K15 hK15 => ?_
      refine AW.regionK 100 (fun _ => none) [4, 5, 6, 7, 8, 31, 32, 40, 41, 42] [123, 127, 134, 200] ?_
      simp only [go_sem, reduceIte, reduceCtorEq, zA, zM, zE, zL, zD, zS, zP, zB, zI, zR, hlg, hll, hj1, keysR_len]
      repeat with_reducible refine cj ?_ ?_
      all_goals try first | omega
      refine hK15 _ _ _ ?_; clear hK15
      refine AW.block ?_
      refine AW.loopE (fun mm ee ss kk => ∃ (k : Nat) (D : List Bool) (g3 v3 g5 v5 g7 v7 g8 v8 : Nat), L.length - k = mm ∧ ee = [(4, .ptr ⟨123, g3, none⟩ 0 0), (5, .sl ⟨127, g5, none⟩ 0 (j + 1) none), (6, .int .i64 (cntL bel n j : Nat)), (7, .mp ⟨134, g7, none⟩), (8, .sl ⟨200, g8, none⟩ 0 (nextL bel n (L.take k)).length none), (31, .int .i64 n), (32, .int .i64 (j : Nat)), (40, .rsl 1 (keysR L)), (41, .int .i64 L.length), (42, .int .i64 (k : Nat))] ∧ ss = [(123, some ⟨g3, v3, 3, [[.int .i64 n, .rsl 1 (lisR bel), .osl 1 (bools D)]]⟩), (127, some ⟨g5, v5, 1, lvR (lvTo bel n j)⟩), (134, some ⟨g7, v7, mapSz, (nextL bel n (L.take k)).map kvS⟩), (200, some ⟨g8, v8, 1, keysR (nextL bel n (L.take k))⟩)] ∧ (k ≤ L.length ∧ D.length = n ∧ cntL bel n j + (nextL bel n (L.take k)).length ≤ 5000)) ?_ ?_
      · refine ⟨_, 0, D, ?_, ?_, ?_, ?_, ?_, ?_, ?_, ?_, rfl, ?henv, ?hstore, ?hst⟩
        case henv =>
          repeat' (first | rfl | refine env_cons ?_ ?_ | refine st_cons ?_ ?_ ?_ ?_ | refine int_eq ?_ | refine bool_eq ?_ | refine rsl_eq ?_ | refine osl_eq ?_ | refine sl_eq ?_ ?_ ?_ | refine ptr_eq ?_ ?_ ?_ | refine agg_eq ?_ | refine es_cons ?_ ?_ | refine row_cons ?_ ?_)
          all_goals (first | (simp; done) | omega | (simp; omega))
        case hstore =>
          repeat' (first | rfl | refine env_cons ?_ ?_ | refine st_cons ?_ ?_ ?_ ?_ | refine int_eq ?_ | refine bool_eq ?_ | refine rsl_eq ?_ | refine osl_eq ?_ | refine sl_eq ?_ ?_ ?_ | refine ptr_eq ?_ ?_ ?_ | refine agg_eq ?_ | refine es_cons ?_ ?_ | refine row_cons ?_ ?_)
          all_goals (first | (simp; done) | omega | (simp; omega))
        case hst =>
          exact ⟨by omega, hD, by simp [nextL]; omega⟩
      rintro mm ee ss kk ⟨k, D, g3, v3, g5, v5, g7, v7, g8, v8, rfl, rfl, rfl, hI⟩
      generalize hQl2 : thenQ _ _ = Ql2
      obtain ⟨hk, hD, hc2⟩ := hI
      refine AW.seq fun K16 hK16 => ?_
      refine AW.regionK 100 (fun _ => none) [4, 5, 6, 7, 8, 31, 32, 40, 41, 42, 43] [123, 127, 134, 200] ?_
      simp only [go_sem, reduceIte, reduceCtorEq, zA, zM, zE, zL, zD, zS, zP, zB, zI, zR]
      repeat with_reducible refine cj ?_ ?_
      all_goals try first | omega
      refine hK16 _ _ _ ?_; clear hK16
      refine AW.seq fun K17 hK17 => ?_
      refine AW.cond rfl (by simp only [go_sem, reduceIte, reduceCtorEq, zA, zM, zE, zL, zD, zS, zP, zB, zI, zR]) ?_ ?_
      · intro hb
        try simp only [hB, decide_eq_true_eq, decide_eq_false_iff_not] at hb
        obtain ⟨S, hS⟩ := getI (l := L) (j := k) (by omega)
        have hkg := keysR_get hS
        have hSl := hml S (List.mem_of_getElem? hS)
        have hld := fun g v => hload D S hD hSl g v
        have hnx := hnext S hSl
        have hn1 := hns k S hS
        have hfb := fun i => (freeL bel S i)
        generalize hA : nextL bel n (L.take k) = A at *
        refine AW.skip ?_
        refine hK17 _ _ _ ?_; clear hK17
        refine AW.seq fun K18 hK18 => ?_
        refine AW.block ?_
        refine AW.seq fun K19 hK19 => ?_
        refine AW.regionK 100 (fun _ => none) [4, 5, 6, 7, 8, 10, 31, 32, 40, 41, 42] [123, 127, 134, 200] ?_
        simp only [go_sem, reduceIte, reduceCtorEq, zA, zM, zE, zL, zD, zS, zP, zB, zI, zR, hkg]
        repeat with_reducible refine cj ?_ ?_
        all_goals try first | ((rw [keysR_len]; omega)) | omega
        refine hK19 _ _ _ ?_; clear hK19
        refine AW.seq fun K20 hK20 => ?_
        refine AW.regionK 100 (fun ii => if ii = 2 then some (.upd [123] (fun k => [(0, some ⟨g3, k, 3, [[.int .i64 n, .rsl 1 (lisR bel), .osl 1 (bools S)]]⟩)]) (fun _ => .tup [])) else none) [4, 5, 6, 7, 8, 31, 32, 40, 41, 42] [123, 127, 134, 200] ?_
        simp only [go_sem, reduceIte, reduceCtorEq, zA, zM, zE, zL, zD, zS, zP, zB, zI, zR]
        repeat with_reducible refine cj ?_ ?_
        all_goals try first | (exact hld _ _) | omega | exact ent (by kernel_rfl)
        refine hK20 _ _ _ ?_; clear hK20
        refine AW.seq fun K21 hK21 => ?_
        refine AW.seq fun K22 hK22 => ?_
        refine AW.regionK 100 (fun ii => if ii = 1 then some (.reads true (.int .i64 (nxt (freeL bel S) n 0))) else none) [4, 5, 6, 7, 8, 11, 31, 32, 40, 41, 42] [123, 127, 134, 200] ?_
        simp only [go_sem, reduceIte, reduceCtorEq, zA, zM, zE, zL, zD, zS, zP, zB, zI, zR]
        repeat with_reducible refine cj ?_ ?_
        all_goals try first | (exact Reads.flat (hnx 0 (by omega)) rfl) | omega | exact ent (by kernel_rfl)
        refine hK22 _ _ _ ?_; clear hK22
        refine AW.block ?_
        refine AW.loopE (fun mm ee ss kk => ∃ (i : Nat) (g3 v3 g5 v5 g7 v7 g8 v8 : Nat), n + 1 - i = mm ∧ ee = [(4, .ptr ⟨123, g3, none⟩ 0 0), (5, .sl ⟨127, g5, none⟩ 0 (j + 1) none), (6, .int .i64 (cntL bel n j : Nat)), (7, .mp ⟨134, g7, none⟩), (8, .sl ⟨200, g8, none⟩ 0 (accS bel S i A).length none), (11, .int .i64 (nxt (freeL bel S) n i)), (31, .int .i64 n), (32, .int .i64 (j : Nat)), (40, .rsl 1 (keysR L)), (41, .int .i64 L.length), (42, .int .i64 (k : Nat))] ∧ ss = [(123, some ⟨g3, v3, 3, [[.int .i64 n, .rsl 1 (lisR bel), .osl 1 (bools S)]]⟩), (127, some ⟨g5, v5, 1, lvR (lvTo bel n j)⟩), (134, some ⟨g7, v7, mapSz, (accS bel S i A).map kvS⟩), (200, some ⟨g8, v8, 1, keysR (accS bel S i A)⟩)] ∧ (i ≤ n)) ?_ ?_
        · refine ⟨_, 0, ?_, ?_, ?_, ?_, ?_, ?_, ?_, ?_, rfl, ?henv, ?hstore, ?hst⟩
          case henv =>
            repeat' (first | rfl | refine env_cons ?_ ?_ | refine st_cons ?_ ?_ ?_ ?_ | refine int_eq ?_ | refine bool_eq ?_ | refine rsl_eq ?_ | refine osl_eq ?_ | refine sl_eq ?_ ?_ ?_ | refine ptr_eq ?_ ?_ ?_ | refine agg_eq ?_ | refine es_cons ?_ ?_ | refine row_cons ?_ ?_)
            all_goals (first | (simp; done) | omega | (simp; omega))
          case hstore =>
            repeat' (first | rfl | refine env_cons ?_ ?_ | refine st_cons ?_ ?_ ?_ ?_ | refine int_eq ?_ | refine bool_eq ?_ | refine rsl_eq ?_ | refine osl_eq ?_ | refine sl_eq ?_ ?_ ?_ | refine ptr_eq ?_ ?_ ?_ | refine agg_eq ?_ | refine es_cons ?_ ?_ | refine row_cons ?_ ?_)
            all_goals (first | (simp; done) | omega | (simp; omega))
          case hst =>
            first | trivial | omega | (simp; done) | (simp; omega)
        rintro mm ee ss kk ⟨i, g3, v3, g5, v5, g7, v7, g8, v8, rfl, rfl, rfl, hI⟩
        generalize hQl3 : thenQ _ _ = Ql3
        have hal := accS_len bel S i A
        have hfn := fr_next (p := freeL bel S) (fun lv x => addS lv (S.set x true)) (n := n) (i := i) (a := A) hI
        have hac : ∀ m, fr (freeL bel S) (fun lv x => addS lv (S.set x true)) m A = accS bel S m A := fun _ => rfl
        simp only [hac] at hfn
        refine AW.seq fun K23 hK23 => ?_
        refine AW.seq fun K24 hK24 => ?_
        refine AW.regionK 100 (fun _ => none) [4, 5, 6, 7, 8, 11, 31, 32, 40, 41, 42, 52] [123, 127, 134, 200] ?_
        simp only [go_sem, reduceIte, reduceCtorEq, zA, zM, zE, zL, zD, zS, zP, zB, zI, zR]
        repeat with_reducible refine cj ?_ ?_
        all_goals try first | omega
        refine hK24 _ _ _ ?_; clear hK24
        refine AW.cond rfl (by simp only [go_sem, reduceIte, reduceCtorEq, zA, zM, zE, zL, zD, zS, zP, zB, zI, zR]) ?_ ?_
        · intro hb
          try simp only [hB, decide_eq_true_eq, decide_eq_false_iff_not] at hb
          obtain ⟨x, hx1, hx2, hx3, hx4, hx5⟩ := hfn.resolve_left (fun h => by omega)
          have hsx := hfree S x hx4
          have hxt : (nxt (freeL bel S) n i).toNat = x := by omega
          have hxr : 0 ≤ nxt (freeL bel S) n i ∧ nxt (freeL bel S) n i < (n : Int) := by omega
          have hxs : nxt (freeL bel S) n i + 1 = ((x + 1 : Nat) : Int) := by omega
          have hS2 : (S.set x true).length = n := by rw [List.length_set]; exact hSl
          have hkS := Reads.flat (hkey (S.set x true) hS2) rfl
          have hnx2 := Reads.flat (hnx (x + 1) (by omega)) rfl
          have hss : (S.set x true).set x false = S := by rw [List.set_set, ← hsx]; exact set_same S x false
          have hmb := mapB_kvS (accS bel S i A) (S.set x true)
          have hmw := mapWf_kvS (P := Tryd.prog) keyOk9 (accS bel S i A)
          have hkw := keysWf_kvS (P := Tryd.prog) keyOk9 (accS bel S i A)
          have hbl := bools_len S
          have hbl2 := bools_len (S.set x true)
          generalize hP : accS bel S i A = Q at *
          refine AW.skip ?_
          refine hK23 _ _ _ ?_; clear hK23
          refine AW.seq fun K25 hK25 => ?_
          refine AW.block ?_
          refine AW.seq fun K26 hK26 => ?_
          refine AW.regionK 100 (fun _ => none) [4, 5, 6, 7, 8, 11, 31, 32, 40, 41, 42] [123, 127, 134, 200] ?_
          simp only [go_sem, reduceIte, reduceCtorEq, zA, zM, zE, zL, zD, zS, zP, zB, zI, zR, hxt, hbl, hSl, bools_upd]
          repeat with_reducible refine cj ?_ ?_
          all_goals try first | omega
          refine hK26 _ _ _ ?_; clear hK26
          refine AW.seq fun K27 hK27 => ?_
          refine AW.seq fun K28 hK28 => ?_
          refine AW.regionK 100 (fun ii => if ii = 1 then some (.reads true (.str (keyS (S.set x true)))) else none) [4, 5, 6, 7, 8, 11, 12, 31, 32, 40, 41, 42] [123, 127, 134, 200] ?_
          simp only [go_sem, reduceIte, reduceCtorEq, zA, zM, zE, zL, zD, zS, zP, zB, zI, zR]
          repeat with_reducible refine cj ?_ ?_
          all_goals try first | (exact hkS) | omega | exact ent (by kernel_rfl)
          refine hK28 _ _ _ ?_; clear hK28
          refine AW.seq fun K29 hK29 => ?_
          refine AW.regionK 100 (fun _ => none) [4, 5, 6, 7, 8, 11, 12, 31, 32, 40, 41, 42, 68] [123, 127, 134, 200] ?_
          simp only [go_sem, reduceIte, reduceCtorEq, zA, zM, zE, zL, zD, zS, zP, zB, zI, zR, hmb]
          repeat with_reducible refine cj ?_ ?_
          all_goals try first | (exact hmw) | omega
          refine hK29 _ _ _ ?_; clear hK29
          have hJ5 : ∀ (v7 g8 v8 : Nat) (kk : Nat), K27 [(4, .ptr ⟨123, g3, none⟩ 0 0), (5, .sl ⟨127, g5, none⟩ 0 (j + 1) none), (6, .int .i64 (cntL bel n j : Nat)), (7, .mp ⟨134, g7, none⟩), (8, .sl ⟨200, g8, none⟩ 0 (addS Q (S.set x true)).length none), (11, .int .i64 (nxt (freeL bel S) n i)), (31, .int .i64 n), (32, .int .i64 (j : Nat)), (40, .rsl 1 (keysR L)), (41, .int .i64 L.length), (42, .int .i64 (k : Nat))] [(123, some ⟨g3, v3, 3, [[.int .i64 n, .rsl 1 (lisR bel), .osl 1 (bools (S.set x true))]]⟩), (127, some ⟨g5, v5, 1, lvR (lvTo bel n j)⟩), (134, some ⟨g7, v7, mapSz, (addS Q (S.set x true)).map kvS⟩), (200, some ⟨g8, v8, 1, keysR (addS Q (S.set x true))⟩)] kk := by
            intro v7 g8 v8 kk
            refine hK27 _ _ _ ?_; clear hK27
            refine AW.regionK 100 (fun _ => none) [4, 5, 6, 7, 8, 11, 31, 32, 40, 41, 42] [123, 127, 134, 200] ?_
            simp only [go_sem, reduceIte, reduceCtorEq, zA, zM, zE, zL, zD, zS, zP, zB, zI, zR, hxt, hbl2, hS2, bools_upd, hss]
            repeat with_reducible refine cj ?_ ?_
            all_goals try first | omega
            refine hK25 _ _ _ ?_; clear hK25
            refine AW.regionK 100 (fun ii => if ii = 3 then some (.reads true (.int .i64 (nxt (freeL bel S) n (x + 1)))) else none) [4, 5, 6, 7, 8, 11, 31, 32, 40, 41, 42] [123, 127, 134, 200] ?_
            simp only [go_sem, reduceIte, reduceCtorEq, zA, zM, zE, zL, zD, zS, zP, zB, zI, zR, hxs]
            repeat with_reducible refine cj ?_ ?_
            all_goals try first | (exact hnx2) | omega | exact ent (by kernel_rfl)
            rw [← hQl3]
            change Exists _
            refine ⟨_, ?hm, x + 1, ?_, ?_, ?_, ?_, ?_, ?_, ?_, ?_, rfl, ?henv, ?hstore, ?hst⟩
            case henv =>
              repeat' (first | rfl | refine env_cons ?_ ?_ | refine st_cons ?_ ?_ ?_ ?_ | refine int_eq ?_ | refine bool_eq ?_ | refine rsl_eq ?_ | refine osl_eq ?_ | refine sl_eq ?_ ?_ ?_ | refine ptr_eq ?_ ?_ ?_ | refine agg_eq ?_ | refine es_cons ?_ ?_ | refine row_cons ?_ ?_)
              all_goals (first | rw [hx5] | omega)
            case hstore =>
              repeat' (first | rfl | refine env_cons ?_ ?_ | refine st_cons ?_ ?_ ?_ ?_ | refine int_eq ?_ | refine bool_eq ?_ | refine rsl_eq ?_ | refine osl_eq ?_ | refine sl_eq ?_ ?_ ?_ | refine ptr_eq ?_ ?_ ?_ | refine agg_eq ?_ | refine es_cons ?_ ?_ | refine row_cons ?_ ?_)
              all_goals (first | rw [hx5] | omega)
            case hst =>
              omega
            case hm => omega
          refine AW.cond rfl (by simp only [go_sem, reduceIte, reduceCtorEq, zA, zM, zE, zL, zD, zS, zP, zB, zI, zR]) ?_ ?_
          · intro hb
            try simp only [hB, decide_eq_true_eq, decide_eq_false_iff_not] at hb
            have hni : S.set x true ∉ Q := by simpa using hb
            have hmp := mapPut_kvS hni
            have had : addS Q (S.set x true) = Q ++ [S.set x true] := by unfold addS; rw [if_neg hni]
            simp only [had, List.length_append, List.length_cons, List.length_nil, Nat.zero_add] at hJ5
            have htk : (keysR Q).take Q.length = keysR Q := List.take_of_length_le (by rw [keysR_len]; omega)
            refine AW.seq fun K30 hK30 => ?_
            refine AW.regionK 100 (fun _ => none) [4, 5, 6, 7, 8, 11, 12, 31, 32, 40, 41, 42] [123, 127, 134, 200] ?_
            simp only [go_sem, reduceIte, reduceCtorEq, zA, zM, zE, zL, zD, zS, zP, zB, zI, zR, hmp]
            repeat with_reducible refine cj ?_ ?_
            all_goals try first | (exact hkw) | omega
            refine hK30 _ _ _ ?_; clear hK30
            refine AW.regionK 100 (fun _ => none) [4, 5, 6, 7, 8, 11, 31, 32, 40, 41, 42] [123, 127, 134, 200] ?_
            simp only [go_sem, reduceIte, reduceCtorEq, zA, zM, zE, zL, zD, zS, zP, zB, zI, zR, htk, keysR_app, keysR_len]
            repeat with_reducible refine cj ?_ ?_
            all_goals try first | omega | (simp [scP, scalar]; done) | exact scP_words _ | exact scP_ints _ | exact scP_bools _
            exact hJ5 _ _ _ _
          · intro hb
            try simp only [hB, decide_eq_true_eq, decide_eq_false_iff_not] at hb
            have hmi : S.set x true ∈ Q := by simpa using hb
            have had : addS Q (S.set x true) = Q := by unfold addS; rw [if_pos hmi]
            simp only [had] at hJ5
            refine AW.keep [4, 5, 6, 7, 8, 11, 31, 32, 40, 41, 42] [123, 127, 134, 200] ?_
            try simp only [go_sem, reduceIte, reduceCtorEq, zA, zM, zE, zL, zD, zS, zP, zB, zI, zR]
            refine AW.skip ?_
            exact hJ5 _ _ _ _
        · intro hb
          try simp only [hB, decide_eq_true_eq, decide_eq_false_iff_not] at hb
          have hac2 : accS bel S i A = accS bel S n A := by
            rcases hfn with ⟨_, h⟩ | ⟨x, h, _⟩
            · exact h
            · omega
          rw [hac2, ← hn1]
          have hnt1 := hnt (k + 1)
          have hal2 := accS_len bel S n A
          rw [← hn1] at hal2
          refine AW.keep [4, 5, 6, 7, 8, 31, 32, 40, 41, 42] [123, 127, 134, 200] ?_
          try simp only [go_sem, reduceIte, reduceCtorEq, zA, zM, zE, zL, zD, zS, zP, zB, zI, zR]
          refine AW.exit ?_
          rw [← hQl3]
          refine hK21 _ _ _ ?_; clear hK21
          refine AW.seq fun K31 hK31 => ?_
          refine AW.regionK 100 (fun _ => none) [4, 5, 6, 7, 8, 31, 32, 40, 41, 42, 85] [123, 127, 134, 200] ?_
          simp only [go_sem, reduceIte, reduceCtorEq, zA, zM, zE, zL, zD, zS, zP, zB, zI, zR]
          repeat with_reducible refine cj ?_ ?_
          all_goals try first | omega
          refine hK31 _ _ _ ?_; clear hK31
          refine AW.cond rfl (by simp only [go_sem, reduceIte, reduceCtorEq, zA, zM, zE, zL, zD, zS, zP, zB, zI, zR]) ?_ ?_
          · intro hb
            try simp only [hB, decide_eq_true_eq, decide_eq_false_iff_not] at hb
            exfalso; omega
          · intro hb
            try simp only [hB, decide_eq_true_eq, decide_eq_false_iff_not] at hb
            refine AW.skip ?_
            refine hK18 _ _ _ ?_; clear hK18
            refine AW.regionK 100 (fun _ => none) [4, 5, 6, 7, 8, 31, 32, 40, 41, 42] [123, 127, 134, 200] ?_
            simp only [go_sem, reduceIte, reduceCtorEq, zA, zM, zE, zL, zD, zS, zP, zB, zI, zR]
            repeat with_reducible refine cj ?_ ?_
            all_goals try first | omega
            rw [← hQl2]
            change Exists _
            refine ⟨_, ?hm, k + 1, S, ?_, ?_, ?_, ?_, ?_, ?_, ?_, ?_, rfl, ?henv, ?hstore, ?hst⟩
            case henv =>
              repeat' (first | rfl | refine env_cons ?_ ?_ | refine st_cons ?_ ?_ ?_ ?_ | refine int_eq ?_ | refine bool_eq ?_ | refine rsl_eq ?_ | refine osl_eq ?_ | refine sl_eq ?_ ?_ ?_ | refine ptr_eq ?_ ?_ ?_ | refine agg_eq ?_ | refine es_cons ?_ ?_ | refine row_cons ?_ ?_)
              all_goals (first | (simp; done) | omega | (simp; omega))
            case hstore =>
              repeat' (first | rfl | refine env_cons ?_ ?_ | refine st_cons ?_ ?_ ?_ ?_ | refine int_eq ?_ | refine bool_eq ?_ | refine rsl_eq ?_ | refine osl_eq ?_ | refine sl_eq ?_ ?_ ?_ | refine ptr_eq ?_ ?_ ?_ | refine agg_eq ?_ | refine es_cons ?_ ?_ | refine row_cons ?_ ?_)
              all_goals (first | (simp; done) | omega | (simp; omega))
            case hst =>
              exact ⟨by omega, hSl, by omega⟩
            case hm => omega
      · intro hb
        try simp only [hB, decide_eq_true_eq, decide_eq_false_iff_not] at hb
        have hkk : k = L.length := by omega
        subst hkk
        rw [List.take_length] at *
        have htl : (lvR (lvTo bel n j)).take (j + 1) = lvR (lvTo bel n j) := List.take_of_length_le (by omega)
        have hgl : ∀ c, (lvR (lvTo bel n j) ++ [c]).getD (j + 1) [] = c := by
          intro c; rw [List.getD_eq_getElem?_getD, List.getElem?_append_right (by omega)]; simp [hll]
        have hsl : ∀ c c', (lvR (lvTo bel n j) ++ [c]).set (j + 1) c' = lvR (lvTo bel n j) ++ [c'] := by
          intro c c'; rw [List.set_append_right _ _ (by omega)]; simp [hll]
        have htk2 : (keysR (nextL bel n L)).take (nextL bel n L).length = keysR (nextL bel n L) := List.take_of_length_le (by rw [keysR_len]; omega)
        have hla := lvR_app (lvTo bel n j) (nextL bel n L)
        rw [← hl1, hls, hl1] at hla
        refine AW.keep [4, 5, 6, 8, 31, 32] [123, 127, 134, 200] ?_
        try simp only [go_sem, reduceIte, reduceCtorEq, zA, zM, zE, zL, zD, zS, zP, zB, zI, zR]
        refine AW.exit ?_
        rw [← hQl2]
        refine hK14 _ _ _ ?_; clear hK14
        refine AW.seq fun K32 hK32 => ?_
        refine AW.regionK 100 (fun _ => none) [4, 5, 6, 8, 31, 32] [123, 127, 134, 200] ?_
        simp only [go_sem, reduceIte, reduceCtorEq, zA, zM, zE, zL, zD, zS, zP, zB, zI, zR]
        repeat with_reducible refine cj ?_ ?_
        all_goals try first | omega
        refine hK32 _ _ _ ?_; clear hK32
        refine AW.regionK 100 (fun _ => none) [4, 5, 6, 31, 32] [123, 127, 200] ?_
        simp only [go_sem, reduceIte, reduceCtorEq, zA, zM, zE, zL, zD, zS, zP, zB, zI, zR, htl, keysR_len]
        repeat with_reducible refine cj ?_ ?_
        all_goals try first | omega | (simp [scP, scalar]; done) | exact scP_words _ | exact scP_ints _ | exact scP_bools _
        refine hK11 _ _ _ ?_; clear hK11
        refine AW.frzCellK [200] 5 127 (j + 1) 0 ?_
        simp only [go_sem, reduceIte, zE, hgl, hsl, htk2, List.length_append, hll]
        refine ⟨rfl, by omega, by decide, by decide, ?_⟩
        rw [hla]
        refine AW.keep [4, 5, 6, 31, 32] [123, 127] ?_
        simp only [go_sem, reduceIte, zE]
        refine AW.regionK 100 (fun _ => none) [4, 5, 6, 31, 32] [123, 127] ?_
        simp only [go_sem, reduceIte, reduceCtorEq, zA, zM, zE, zL, zD, zS, zP, zB, zI, zR]
        repeat with_reducible refine cj ?_ ?_
        all_goals try first | omega
        rw [← hQl1]
        change Exists _
        refine ⟨_, ?hm, j + 1, D, ?_, ?_, ?_, ?_, rfl, ?henv, ?hstore, ?hst⟩
        case henv =>
          repeat' (first | rfl | refine env_cons ?_ ?_ | refine st_cons ?_ ?_ ?_ ?_ | refine int_eq ?_ | refine bool_eq ?_ | refine rsl_eq ?_ | refine osl_eq ?_ | refine sl_eq ?_ ?_ ?_ | refine ptr_eq ?_ ?_ ?_ | refine agg_eq ?_ | refine es_cons ?_ ?_ | refine row_cons ?_ ?_)
          all_goals (first | omega | rfl)
        case hstore =>
          repeat' (first | rfl | refine env_cons ?_ ?_ | refine st_cons ?_ ?_ ?_ ?_ | refine int_eq ?_ | refine bool_eq ?_ | refine rsl_eq ?_ | refine osl_eq ?_ | refine sl_eq ?_ ?_ ?_ | refine ptr_eq ?_ ?_ ?_ | refine agg_eq ?_ | refine es_cons ?_ ?_ | refine row_cons ?_ ?_)
          all_goals (first | (simp; done) | omega | (simp; omega))
        case hst =>
          exact ⟨by omega, hD, by omega⟩
        case hm => omega
    · intro hb
      try simp only [hB, decide_eq_true_eq, decide_eq_false_iff_not] at hb
      have hjn : n = j := by omega
      subst hjn
      refine AW.keep [4, 5] [123, 127] ?_
      try simp only [go_sem, reduceIte, reduceCtorEq, zA, zM, zE, zL, zD, zS, zP, zB, zI, zR]
      refine AW.exit ?_
      rw [← hQl1]
      refine hK7 _ _ _ ?_; clear hK7
      refine AW.seq fun K33 hK33 => ?_
      refine AW.regionK 100 (fun _ => none) [4, 5, 13] [123, 127, 196] ?_
      simp only [go_sem, reduceIte, reduceCtorEq, zA, zM, zE, zL, zD, zS, zP, zB, zI, zR]
      repeat with_reducible refine cj ?_ ?_
      all_goals try first | omega
      refine hK33 _ _ _ ?_; clear hK33
      refine AW.seq fun K34 hK34 => ?_
      refine AW.seq fun K35 hK35 => ?_
      refine AW.regionK 100 (fun _ => none) [4, 5, 13, 14] [123, 127, 196] ?_
      simp only [go_sem, reduceIte, reduceCtorEq, zA, zM, zE, zL, zD, zS, zP, zB, zI, zR]
      repeat with_reducible refine cj ?_ ?_
      all_goals try first | omega
      refine hK35 _ _ _ ?_; clear hK35
      refine AW.block ?_
      refine AW.loopE (fun mm ee ss kk => ∃ (m : Nat) (D : List Bool) (g3 v3 g5 v5 g13 v13 : Nat), n + 1 - m = mm ∧ ee = [(4, .ptr ⟨123, g3, none⟩ 0 0), (5, .sl ⟨127, g5, none⟩ 0 (n + 1) none), (13, .mp ⟨196, g13, none⟩), (14, .int .i64 ((n : Int) - m))] ∧ ss = [(123, some ⟨g3, v3, 3, [[.int .i64 n, .rsl 1 (lisR bel), .osl 1 (bools D)]]⟩), (127, some ⟨g5, v5, 1, lvR (lvTo bel n n)⟩), (196, some ⟨g13, v13, mapSz, downW bel n m⟩)] ∧ (m ≤ n + 1 ∧ D.length = n)) ?_ ?_
      · refine ⟨_, 0, D, ?_, ?_, ?_, ?_, ?_, ?_, rfl, ?henv, ?hstore, ?hst⟩
        case henv =>
          repeat' (first | rfl | refine env_cons ?_ ?_ | refine st_cons ?_ ?_ ?_ ?_ | refine int_eq ?_ | refine bool_eq ?_ | refine rsl_eq ?_ | refine osl_eq ?_ | refine sl_eq ?_ ?_ ?_ | refine ptr_eq ?_ ?_ ?_ | refine agg_eq ?_ | refine es_cons ?_ ?_ | refine row_cons ?_ ?_)
          all_goals (first | omega | (simp; done))
        case hstore =>
          repeat' (first | rfl | refine env_cons ?_ ?_ | refine st_cons ?_ ?_ ?_ ?_ | refine int_eq ?_ | refine bool_eq ?_ | refine rsl_eq ?_ | refine osl_eq ?_ | refine sl_eq ?_ ?_ ?_ | refine ptr_eq ?_ ?_ ?_ | refine agg_eq ?_ | refine es_cons ?_ ?_ | refine row_cons ?_ ?_)
          all_goals (first | (simp; done) | omega | (simp; omega))
        case hst =>
          exact ⟨by omega, hD⟩
      rintro mm ee ss kk ⟨m, D, g3, v3, g5, v5, g13, v13, rfl, rfl, rfl, hI⟩
      generalize hQl4 : thenQ _ _ = Ql4
      obtain ⟨hm, hD⟩ := hI
      refine AW.seq fun K36 hK36 => ?_
      refine AW.seq fun K37 hK37 => ?_
      refine AW.regionK 100 (fun _ => none) [4, 5, 13, 14, 101] [123, 127, 196] ?_
      simp only [go_sem, reduceIte, reduceCtorEq, zA, zM, zE, zL, zD, zS, zP, zB, zI, zR]
      repeat with_reducible refine cj ?_ ?_
      all_goals try first | omega
      refine hK37 _ _ _ ?_; clear hK37
      refine AW.cond rfl (by simp only [go_sem, reduceIte, reduceCtorEq, zA, zM, zE, zL, zD, zS, zP, zB, zI, zR]) ?_ ?_
      · intro hb
        try simp only [hB, decide_eq_true_eq, decide_eq_false_iff_not] at hb
        have hm2 : m ≤ n := by omega
        obtain ⟨at0, hat⟩ : ∃ at0, at0 = n - m := ⟨_, rfl⟩
        have hat2 : ((n : Int) - m).toNat = at0 := by omega
        have hlg := lvR_get (lvTo_get (bel := bel) (n := n) (j := n) (i := at0) (by omega))
        have hll := lvR_len (lvTo bel n n)
        rw [lvTo_len] at hll
        have hml := fun S => lvAt_len (bel := bel) (n := n) (j := at0) (S := S)
        have hle := lvAt_le bel n at0
        have hcm := cntL_mono bel n at0 n (by omega)
        have hW0 := downW_ok bel n m
        have hdn : downW bel n (m + 1) = (lvAt bel n at0).foldl (stepW bel n at0) (downW bel n m) := by rw [hat]; rfl
        generalize hL : lvAt bel n at0 = L at *
        generalize hE0 : downW bel n m = E0 at *
        refine AW.skip ?_
        refine hK36 _ _ _ ?_; clear hK36
        refine AW.seq fun K38 hK38 => ?_
        refine AW.block ?_
        refine AW.seq fun K39 hK39 => ?_
        refine AW.regionK 100 (fun _ => none) [4, 5, 13, 14, 107, 108, 109] [123, 127, 196] ?_
        simp only [go_sem, reduceIte, reduceCtorEq, zA, zM, zE, zL, zD, zS, zP, zB, zI, zR, hlg, hll, hat2, keysR_len]
        repeat with_reducible refine cj ?_ ?_
        all_goals try first | omega
        refine hK39 _ _ _ ?_; clear hK39
        refine AW.block ?_
        refine AW.loopE (fun mm ee ss kk => ∃ (k : Nat) (D : List Bool) (g3 v3 g5 v5 g13 v13 : Nat), L.length - k = mm ∧ ee = [(4, .ptr ⟨123, g3, none⟩ 0 0), (5, .sl ⟨127, g5, none⟩ 0 (n + 1) none), (13, .mp ⟨196, g13, none⟩), (14, .int .i64 ((n : Int) - m)), (107, .rsl 1 (keysR L)), (108, .int .i64 L.length), (109, .int .i64 (k : Nat))] ∧ ss = [(123, some ⟨g3, v3, 3, [[.int .i64 n, .rsl 1 (lisR bel), .osl 1 (bools D)]]⟩), (127, some ⟨g5, v5, 1, lvR (lvTo bel n n)⟩), (196, some ⟨g13, v13, mapSz, (L.take k).foldl (stepW bel n at0) E0⟩)] ∧ (k ≤ L.length ∧ D.length = n)) ?_ ?_
        · refine ⟨_, 0, D, ?_, ?_, ?_, ?_, ?_, ?_, rfl, ?henv, ?hstore, ?hst⟩
          case henv =>
            repeat' (first | rfl | refine env_cons ?_ ?_ | refine st_cons ?_ ?_ ?_ ?_ | refine int_eq ?_ | refine bool_eq ?_ | refine rsl_eq ?_ | refine osl_eq ?_ | refine sl_eq ?_ ?_ ?_ | refine ptr_eq ?_ ?_ ?_ | refine agg_eq ?_ | refine es_cons ?_ ?_ | refine row_cons ?_ ?_)
            all_goals (first | (simp; done) | omega | (simp; omega))
          case hstore =>
            repeat' (first | rfl | refine env_cons ?_ ?_ | refine st_cons ?_ ?_ ?_ ?_ | refine int_eq ?_ | refine bool_eq ?_ | refine rsl_eq ?_ | refine osl_eq ?_ | refine sl_eq ?_ ?_ ?_ | refine ptr_eq ?_ ?_ ?_ | refine agg_eq ?_ | refine es_cons ?_ ?_ | refine row_cons ?_ ?_)
            all_goals (first | (simp; done) | omega | (simp; omega))
          case hst =>
            exact ⟨by omega, hD⟩
        rintro mm ee ss kk ⟨k, D, g3, v3, g5, v5, g13, v13, rfl, rfl, rfl, hI⟩
        generalize hQl5 : thenQ _ _ = Ql5
        obtain ⟨hk, hD⟩ := hI
        refine AW.seq fun K40 hK40 => ?_
        refine AW.regionK 100 (fun _ => none) [4, 5, 13, 14, 107, 108, 109, 110] [123, 127, 196] ?_
        simp only [go_sem, reduceIte, reduceCtorEq, zA, zM, zE, zL, zD, zS, zP, zB, zI, zR]
        repeat with_reducible refine cj ?_ ?_
        all_goals try first | omega
        refine hK40 _ _ _ ?_; clear hK40
        refine AW.seq fun K41 hK41 => ?_
        refine AW.cond rfl (by simp only [go_sem, reduceIte, reduceCtorEq, zA, zM, zE, zL, zD, zS, zP, zB, zI, zR]) ?_ ?_
        · intro hb
          try simp only [hB, decide_eq_true_eq, decide_eq_false_iff_not] at hb
          obtain ⟨S, hS⟩ := getI (l := L) (j := k) (by omega)
          have hkg := keysR_get hS
          have hSl := hml S (List.mem_of_getElem? hS)
          have hld := fun g v => hload D S hD hSl g v
          have hnx := hnext S hSl
          have hWk := WOk.steps (bel := bel) (n := n) (a := at0) (l := L.take k) hW0
          have hsn : (L.take (k + 1)).foldl (stepW bel n at0) E0 = stepW bel n at0 ((L.take k).foldl (stepW bel n at0) E0) S := by rw [List.take_add_one, hS]; simp
          generalize hE : (L.take k).foldl (stepW bel n at0) E0 = E at *
          refine AW.skip ?_
          refine hK41 _ _ _ ?_; clear hK41
          refine AW.seq fun K42 hK42 => ?_
          refine AW.block ?_
          refine AW.seq fun K43 hK43 => ?_
          refine AW.regionK 100 (fun _ => none) [4, 5, 13, 14, 16, 107, 108, 109] [123, 127, 196] ?_
          simp only [go_sem, reduceIte, reduceCtorEq, zA, zM, zE, zL, zD, zS, zP, zB, zI, zR, hkg]
          repeat with_reducible refine cj ?_ ?_
          all_goals try first | ((rw [keysR_len]; omega)) | omega
          refine hK43 _ _ _ ?_; clear hK43
          refine AW.seq fun K44 hK44 => ?_
          refine AW.regionK 100 (fun ii => if ii = 2 then some (.upd [123] (fun k => [(0, some ⟨g3, k, 3, [[.int .i64 n, .rsl 1 (lisR bel), .osl 1 (bools S)]]⟩)]) (fun _ => .tup [])) else none) [4, 5, 13, 14, 16, 107, 108, 109] [123, 127, 196] ?_
          simp only [go_sem, reduceIte, reduceCtorEq, zA, zM, zE, zL, zD, zS, zP, zB, zI, zR]
          repeat with_reducible refine cj ?_ ?_
          all_goals try first | (exact hld _ _) | omega | exact ent (by kernel_rfl)
          refine hK44 _ _ _ ?_; clear hK44
          refine AW.seq fun K45 hK45 => ?_
          refine AW.regionK 100 (fun _ => none) [4, 5, 13, 14, 16, 17, 107, 108, 109] [123, 127, 196] ?_
          simp only [go_sem, reduceIte, reduceCtorEq, zA, zM, zE, zL, zD, zS, zP, zB, zI, zR]
          repeat with_reducible refine cj ?_ ?_
          all_goals try first | omega
          refine hK45 _ _ _ ?_; clear hK45
          refine AW.seq fun K46 hK46 => ?_
          refine AW.seq fun K47 hK47 => ?_
          refine AW.regionK 100 (fun ii => if ii = 1 then some (.reads true (.int .i64 (nxt (freeL bel S) n 0))) else none) [4, 5, 13, 14, 16, 17, 18, 107, 108, 109] [123, 127, 196] ?_
          simp only [go_sem, reduceIte, reduceCtorEq, zA, zM, zE, zL, zD, zS, zP, zB, zI, zR]
          repeat with_reducible refine cj ?_ ?_
          all_goals try first | (exact Reads.flat (hnx 0 (by omega)) rfl) | omega | exact ent (by kernel_rfl)
          refine hK47 _ _ _ ?_; clear hK47
          refine AW.block ?_
          refine AW.loopE (fun mm ee ss kk => ∃ (i : Nat) (g3 v3 g5 v5 g13 v13 : Nat), n + 1 - i = mm ∧ ee = [(4, .ptr ⟨123, g3, none⟩ 0 0), (5, .sl ⟨127, g5, none⟩ 0 (n + 1) none), (13, .mp ⟨196, g13, none⟩), (14, .int .i64 ((n : Int) - m)), (16, .str (keyS S)), (17, .int .i64 (sumW bel E S i)), (18, .int .i64 (nxt (freeL bel S) n i)), (107, .rsl 1 (keysR L)), (108, .int .i64 L.length), (109, .int .i64 (k : Nat))] ∧ ss = [(123, some ⟨g3, v3, 3, [[.int .i64 n, .rsl 1 (lisR bel), .osl 1 (bools S)]]⟩), (127, some ⟨g5, v5, 1, lvR (lvTo bel n n)⟩), (196, some ⟨g13, v13, mapSz, E⟩)] ∧ (i ≤ n)) ?_ ?_
          · refine ⟨_, 0, ?_, ?_, ?_, ?_, ?_, ?_, rfl, ?henv, ?hstore, ?hst⟩
            case henv =>
              repeat' (first | rfl | refine env_cons ?_ ?_ | refine st_cons ?_ ?_ ?_ ?_ | refine int_eq ?_ | refine bool_eq ?_ | refine rsl_eq ?_ | refine osl_eq ?_ | refine sl_eq ?_ ?_ ?_ | refine ptr_eq ?_ ?_ ?_ | refine agg_eq ?_ | refine es_cons ?_ ?_ | refine row_cons ?_ ?_)
              all_goals (first | (simp; done) | omega | (simp; omega))
            case hstore =>
              repeat' (first | rfl | refine env_cons ?_ ?_ | refine st_cons ?_ ?_ ?_ ?_ | refine int_eq ?_ | refine bool_eq ?_ | refine rsl_eq ?_ | refine osl_eq ?_ | refine sl_eq ?_ ?_ ?_ | refine ptr_eq ?_ ?_ ?_ | refine agg_eq ?_ | refine es_cons ?_ ?_ | refine row_cons ?_ ?_)
              all_goals (first | (simp; done) | omega | (simp; omega))
            case hst =>
              first | trivial | omega | (simp; done) | (simp; omega)
          rintro mm ee ss kk ⟨i, g3, v3, g5, v5, g13, v13, rfl, rfl, rfl, hI⟩
          generalize hQl6 : thenQ _ _ = Ql6
          have hsr := sumW_rng (bel := bel) hWk S i
          have hfn := fr_next (p := freeL bel S) (fun s x => min (s + mapI E (.str (keyS (S.set x true)))) 1125899906842625) (n := n) (i := i) (a := (0 : Int)) hI
          have hac : ∀ m, fr (freeL bel S) (fun s x => min (s + mapI E (.str (keyS (S.set x true)))) 1125899906842625) m (0 : Int) = sumW bel E S m := fun _ => rfl
          simp only [hac] at hfn
          refine AW.seq fun K48 hK48 => ?_
          refine AW.seq fun K49 hK49 => ?_
          refine AW.regionK 100 (fun _ => none) [4, 5, 13, 14, 16, 17, 18, 107, 108, 109, 119] [123, 127, 196] ?_
          simp only [go_sem, reduceIte, reduceCtorEq, zA, zM, zE, zL, zD, zS, zP, zB, zI, zR]
          repeat with_reducible refine cj ?_ ?_
          all_goals try first | omega
          refine hK49 _ _ _ ?_; clear hK49
          refine AW.cond rfl (by simp only [go_sem, reduceIte, reduceCtorEq, zA, zM, zE, zL, zD, zS, zP, zB, zI, zR]) ?_ ?_
          · intro hb
            try simp only [hB, decide_eq_true_eq, decide_eq_false_iff_not] at hb
            obtain ⟨x, hx1, hx2, hx3, hx4, hx5⟩ := hfn.resolve_left (fun h => by omega)
            have hsx := hfree S x hx4
            have hxt : (nxt (freeL bel S) n i).toNat = x := by omega
            have hxr : 0 ≤ nxt (freeL bel S) n i ∧ nxt (freeL bel S) n i < (n : Int) := by omega
            have hxs : nxt (freeL bel S) n i + 1 = ((x + 1 : Nat) : Int) := by omega
            have hS2 : (S.set x true).length = n := by rw [List.length_set]; exact hSl
            have hkS := Reads.flat (hkey (S.set x true) hS2) rfl
            have hnx2 := Reads.flat (hnx (x + 1) (by omega)) rfl
            have hss : (S.set x true).set x false = S := by rw [List.set_set, ← hsx]; exact set_same S x false
            have hmw := hWk.mapWf (P := Tryd.prog) keyOk9
            have hmr := hWk.rng (.str (keyS (S.set x true)))
            have hbl := bools_len S
            have hbl2 := bools_len (S.set x true)
            refine AW.skip ?_
            refine hK48 _ _ _ ?_; clear hK48
            refine AW.seq fun K50 hK50 => ?_
            refine AW.block ?_
            refine AW.seq fun K51 hK51 => ?_
            refine AW.regionK 100 (fun _ => none) [4, 5, 13, 14, 16, 17, 18, 107, 108, 109] [123, 127, 196] ?_
            simp only [go_sem, reduceIte, reduceCtorEq, zA, zM, zE, zL, zD, zS, zP, zB, zI, zR, hxt, hbl, hSl, bools_upd]
            repeat with_reducible refine cj ?_ ?_
            all_goals try first | omega
            refine hK51 _ _ _ ?_; clear hK51
            refine AW.seq fun K52 hK52 => ?_
            refine AW.regionK 100 (fun ii => if ii = 3 then some (.reads true (.str (keyS (S.set x true)))) else none) [4, 5, 13, 14, 16, 17, 18, 107, 108, 109] [123, 127, 196] ?_
            simp only [go_sem, reduceIte, reduceCtorEq, zA, zM, zE, zL, zD, zS, zP, zB, zI, zR]
            repeat with_reducible refine cj ?_ ?_
            all_goals try first | (first | exact hkS | exact hmw) | omega | exact ent (by kernel_rfl)
            refine hK52 _ _ _ ?_; clear hK52
            refine AW.regionK 100 (fun _ => none) [4, 5, 13, 14, 16, 17, 18, 107, 108, 109] [123, 127, 196] ?_
            simp only [go_sem, reduceIte, reduceCtorEq, zA, zM, zE, zL, zD, zS, zP, zB, zI, zR, hxt, hbl2, hS2, bools_upd, hss]
            repeat with_reducible refine cj ?_ ?_
            all_goals try first | omega
            refine hK50 _ _ _ ?_; clear hK50
            refine AW.regionK 100 (fun ii => if ii = 3 then some (.reads true (.int .i64 (nxt (freeL bel S) n (x + 1)))) else none) [4, 5, 13, 14, 16, 17, 18, 107, 108, 109] [123, 127, 196] ?_
            simp only [go_sem, reduceIte, reduceCtorEq, zA, zM, zE, zL, zD, zS, zP, zB, zI, zR, hxs]
            repeat with_reducible refine cj ?_ ?_
            all_goals try first | (exact hnx2) | omega | exact ent (by kernel_rfl)
            rw [← hQl6]
            change Exists _
            refine ⟨_, ?hm, x + 1, ?_, ?_, ?_, ?_, ?_, ?_, rfl, ?henv, ?hstore, ?hst⟩
            case henv =>
              repeat' (first | rfl | refine env_cons ?_ ?_ | refine st_cons ?_ ?_ ?_ ?_ | refine int_eq ?_ | refine bool_eq ?_ | refine rsl_eq ?_ | refine osl_eq ?_ | refine sl_eq ?_ ?_ ?_ | refine ptr_eq ?_ ?_ ?_ | refine agg_eq ?_ | refine es_cons ?_ ?_ | refine row_cons ?_ ?_)
              all_goals (first | (rw [hx5]; rw [Int.min_def]; split <;> split <;> omega) | omega)
            case hstore =>
              repeat' (first | rfl | refine env_cons ?_ ?_ | refine st_cons ?_ ?_ ?_ ?_ | refine int_eq ?_ | refine bool_eq ?_ | refine rsl_eq ?_ | refine osl_eq ?_ | refine sl_eq ?_ ?_ ?_ | refine ptr_eq ?_ ?_ ?_ | refine agg_eq ?_ | refine es_cons ?_ ?_ | refine row_cons ?_ ?_)
              all_goals (first | (simp; done) | omega | (simp; omega))
            case hst =>
              omega
            case hm => omega
          · intro hb
            try simp only [hB, decide_eq_true_eq, decide_eq_false_iff_not] at hb
            have hac2 : sumW bel E S i = sumW bel E S n := by
              rcases hfn with ⟨_, h⟩ | ⟨x, h, _⟩
              · exact h
              · omega
            clear hfn
            rw [hac2]
            refine AW.keep [4, 5, 13, 14, 16, 17, 107, 108, 109] [123, 127, 196] ?_
            try simp only [go_sem, reduceIte, reduceCtorEq, zA, zM, zE, zL, zD, zS, zP, zB, zI, zR]
            refine AW.exit ?_
            rw [← hQl6]
            refine hK46 _ _ _ ?_; clear hK46
            refine AW.seq fun K53 hK53 => ?_
            refine AW.seq fun K54 hK54 => ?_
            refine AW.regionK 100 (fun _ => none) [4, 5, 13, 14, 16, 17, 107, 108, 109, 148] [123, 127, 196] ?_
            simp only [go_sem, reduceIte, reduceCtorEq, zA, zM, zE, zL, zD, zS, zP, zB, zI, zR]
            repeat with_reducible refine cj ?_ ?_
            all_goals try first | omega
            refine hK54 _ _ _ ?_; clear hK54
            have hJ10 : ∀ (z : Nat) (kk : Nat), K53 [(4, .ptr ⟨123, g3, none⟩ 0 0), (5, .sl ⟨127, g5, none⟩ 0 (n + 1) none), (13, .mp ⟨196, g13, none⟩), (14, .int .i64 ((n : Int) - m)), (16, .str (keyS S)), (17, .int .i64 (wayS bel n E S at0)), (107, .rsl 1 (keysR L)), (108, .int .i64 L.length), (109, .int .i64 (k : Nat))] [(123, some ⟨g3, v3, 3, [[.int .i64 n, .rsl 1 (lisR bel), .osl 1 (bools S)]]⟩), (127, some ⟨g5, v5, 1, lvR (lvTo bel n n)⟩), (196, some ⟨g13, v13, mapSz, E⟩)] kk := by
              intro z kk
              refine hK53 _ _ _ ?_; clear hK53
              have hkw := hWk.keysWf (P := Tryd.prog) keyOk9
              have hst : mapPut E (.str (keyS S)) (.int .i64 (wayS bel n E S at0)) = stepW bel n at0 E S := rfl
              refine AW.regionK 100 (fun _ => none) [4, 5, 13, 14, 107, 108, 109] [123, 127, 196] ?_
              simp only [go_sem, reduceIte, reduceCtorEq, zA, zM, zE, zL, zD, zS, zP, zB, zI, zR, hst]
              repeat with_reducible refine cj ?_ ?_
              all_goals try first | (exact hkw) | omega
              refine hK42 _ _ _ ?_; clear hK42
              refine AW.regionK 100 (fun _ => none) [4, 5, 13, 14, 107, 108, 109] [123, 127, 196] ?_
              simp only [go_sem, reduceIte, reduceCtorEq, zA, zM, zE, zL, zD, zS, zP, zB, zI, zR]
              repeat with_reducible refine cj ?_ ?_
              all_goals try first | omega
              rw [← hQl5]
              change Exists _
              refine ⟨_, ?hm, k + 1, S, ?_, ?_, ?_, ?_, ?_, ?_, rfl, ?henv, ?hstore, ?hst⟩
              case henv =>
                repeat' (first | rfl | refine env_cons ?_ ?_ | refine st_cons ?_ ?_ ?_ ?_ | refine int_eq ?_ | refine bool_eq ?_ | refine rsl_eq ?_ | refine osl_eq ?_ | refine sl_eq ?_ ?_ ?_ | refine ptr_eq ?_ ?_ ?_ | refine agg_eq ?_ | refine es_cons ?_ ?_ | refine row_cons ?_ ?_)
                all_goals (first | (simp; done) | omega | (simp; omega))
              case hstore =>
                repeat' (first | rfl | refine env_cons ?_ ?_ | refine st_cons ?_ ?_ ?_ ?_ | refine int_eq ?_ | refine bool_eq ?_ | refine rsl_eq ?_ | refine osl_eq ?_ | refine sl_eq ?_ ?_ ?_ | refine ptr_eq ?_ ?_ ?_ | refine agg_eq ?_ | refine es_cons ?_ ?_ | refine row_cons ?_ ?_)
                all_goals (rw [hsn])
              case hst =>
                exact ⟨by omega, hSl⟩
              case hm => omega
            refine AW.cond rfl (by simp only [go_sem, reduceIte, reduceCtorEq, zA, zM, zE, zL, zD, zS, zP, zB, zI, zR]) ?_ ?_
            · intro hb
              try simp only [hB, decide_eq_true_eq, decide_eq_false_iff_not] at hb
              have hw : wayS bel n E S at0 = 1 := by unfold wayS; rw [if_pos (by omega)]
              rw [hw] at hJ10
              refine AW.regionK 100 (fun _ => none) [4, 5, 13, 14, 16, 17, 107, 108, 109] [123, 127, 196] ?_
              simp only [go_sem, reduceIte, reduceCtorEq, zA, zM, zE, zL, zD, zS, zP, zB, zI, zR]
              repeat with_reducible refine cj ?_ ?_
              all_goals try first | omega
              exact hJ10 0 _
            · intro hb
              try simp only [hB, decide_eq_true_eq, decide_eq_false_iff_not] at hb
              have hw : wayS bel n E S at0 = sumW bel E S n := by unfold wayS; rw [if_neg (by omega)]
              rw [hw] at hJ10
              refine AW.keep [4, 5, 13, 14, 16, 17, 107, 108, 109] [123, 127, 196] ?_
              try simp only [go_sem, reduceIte, reduceCtorEq, zA, zM, zE, zL, zD, zS, zP, zB, zI, zR]
              refine AW.skip ?_
              exact hJ10 0 _
        · intro hb
          try simp only [hB, decide_eq_true_eq, decide_eq_false_iff_not] at hb
          have hkk : k = L.length := by omega
          subst hkk
          rw [List.take_length, ← hdn]
          refine AW.keep [4, 5, 13, 14] [123, 127, 196] ?_
          try simp only [go_sem, reduceIte, reduceCtorEq, zA, zM, zE, zL, zD, zS, zP, zB, zI, zR]
          refine AW.exit ?_
          rw [← hQl5]
          refine hK38 _ _ _ ?_; clear hK38
          refine AW.regionK 100 (fun _ => none) [4, 5, 13, 14] [123, 127, 196] ?_
          simp only [go_sem, reduceIte, reduceCtorEq, zA, zM, zE, zL, zD, zS, zP, zB, zI, zR]
          repeat with_reducible refine cj ?_ ?_
          all_goals try first | omega
          rw [← hQl4]
          change Exists _
          refine ⟨_, ?hm, m + 1, D, ?_, ?_, ?_, ?_, ?_, ?_, rfl, ?henv, ?hstore, ?hst⟩
          case henv =>
            repeat' (first | rfl | refine env_cons ?_ ?_ | refine st_cons ?_ ?_ ?_ ?_ | refine int_eq ?_ | refine bool_eq ?_ | refine rsl_eq ?_ | refine osl_eq ?_ | refine sl_eq ?_ ?_ ?_ | refine ptr_eq ?_ ?_ ?_ | refine agg_eq ?_ | refine es_cons ?_ ?_ | refine row_cons ?_ ?_)
            all_goals (omega)
          case hstore =>
            repeat' (first | rfl | refine env_cons ?_ ?_ | refine st_cons ?_ ?_ ?_ ?_ | refine int_eq ?_ | refine bool_eq ?_ | refine rsl_eq ?_ | refine osl_eq ?_ | refine sl_eq ?_ ?_ ?_ | refine ptr_eq ?_ ?_ ?_ | refine agg_eq ?_ | refine es_cons ?_ ?_ | refine row_cons ?_ ?_)
            all_goals (first | (simp; done) | omega | (simp; omega))
          case hst =>
            exact ⟨by omega, hD⟩
          case hm => omega
      · intro hb
        try simp only [hB, decide_eq_true_eq, decide_eq_false_iff_not] at hb
        have hflt := (downW_ok bel n (n + 1)).flt
        have hmm : m = n + 1 := by omega
        subst hmm
        refine AW.keep [13] [123, 127, 196] ?_
        try simp only [go_sem, reduceIte, reduceCtorEq, zA, zM, zE, zL, zD, zS, zP, zB, zI, zR]
        refine AW.exit ?_
        rw [← hQl4]
        refine hK34 _ _ _ ?_; clear hK34
        refine AW.seq fun K55 hK55 => ?_
        refine AW.regionK 100 (fun _ => none) [2, 3] [123, 127, 196] ?_
        simp only [go_sem, reduceIte, reduceCtorEq, zA, zM, zE, zL, zD, zS, zP, zB, zI, zR]
        repeat with_reducible refine cj ?_ ?_
        all_goals try first | omega
        refine hK55 _ _ _ ?_; clear hK55
        refine AW.ret ?_
        rw [← hQr]
        simp only [go_sem, reduceIte, reduceCtorEq, zA, zM, zE, zL, zD, zS, zP, zB, zI, zR]
        refine ⟨[(196, 0, true)], ?_⟩
        simp only [go_sem, reduceIte, zE, renC_ints]
        rw [hflt]
end Go.Proofs.X

namespace Go.Proofs.X
open Go.AM Go
set_option maxRecDepth 100000
set_option maxHeartbeats 4000000
def allW (n : Nat) (t : List (List Bool)) : Int := mapI (waysE (belL n t) n) (.str (keyS (List.replicate n false)))
theorem counted_u (n : Nat) (t : List (List Bool)) (hs : Sq n t) (hn : n ≤ 512) (hp : poB n t = true) (hbud : cntL (belL n t) n n ≤ 5000) (hbig : allW n t ≤ 1125899906842624) :
    Upd Tryd.prog 42 [] [relB t] (fun k => .tup [.mp ⟨0, k, none⟩, .int .i64 (allW n t), .int .i64 0]) (fun k => [(0, some ⟨k, k, mapSz, waysE (belL n t) n⟩)]) := by
  have ht := table_u n t hs hn hp hbud
  have ho := open_u n t hs hn
  have hkey := Reads.flat (key_r n (belL n t) (List.replicate n false) (by simp) hn) rfl
  have hWk := downW_ok (belL n t) n (n + 1)
  have hmw := hWk.mapWf (P := Tryd.prog) keyOk9
  have hflt := hWk.flt
  unfold allW waysE at *
  unfold stO stV relB at *
  generalize downW (belL n t) n (n + 1) = E at *
  generalize belL n t = bel at *
  refine Upd.of_body (rs := [.tmp 2, .tmp 3, .tmp 4]) Tryd.func42 rfl Tryd.ntmps42 rfl (by simp) ?_
  intro k0 k hk0 hk1
  generalize hQr : retQ _ _ _ = Qr
  refine AW.seq fun K1 hK1 => ?_
  refine AW.regionK 100 (fun _ => none) [1] [101, 107] ?_
  simp only [go_sem, reduceIte, reduceCtorEq, zA, zM, zE, zL, zD, zS, zP, zB, zI, zR]
  repeat with_reducible refine cj ?_ ?_
  all_goals try first | omega
  refine hK1 _ _ _ ?_; clear hK1
  refine AW.seq fun K2 hK2 => ?_
  refine AW.regionK 100 (fun ii => if ii = 1 then some (.upd [] (fun k => [(0, some ⟨k, k, mapSz, E⟩)]) (fun k => .tup [.mp ⟨0, k, none⟩, .int .i64 0])) else none) [1, 2, 4] [101, 107] ?_
  simp only [go_sem, reduceIte, reduceCtorEq, zA, zM, zE, zL, zD, zS, zP, zB, zI, zR, hflt]
  repeat with_reducible refine cj ?_ ?_
  all_goals try first | (exact ht) | omega | exact ent (by kernel_rfl)
  refine hK2 _ _ _ ?_; clear hK2
  refine AW.seq fun K3 hK3 => ?_
  refine AW.seq fun K4 hK4 => ?_
  refine AW.regionK 100 (fun _ => none) [1, 2, 4, 11] [101, 107] ?_
  simp only [go_sem, reduceIte, reduceCtorEq, zA, zM, zE, zL, zD, zS, zP, zB, zI, zR]
  repeat with_reducible refine cj ?_ ?_
  all_goals try first | omega
  refine hK4 _ _ _ ?_; clear hK4
  refine AW.cond rfl (by simp only [go_sem, reduceIte, reduceCtorEq, zA, zM, zE, zL, zD, zS, zP, zB, zI, zR]) ?_ ?_
  · intro hb
    try simp only [hB, decide_eq_true_eq, decide_eq_false_iff_not] at hb
    exfalso; simp at hb
  · intro hb
    try simp only [hB, decide_eq_true_eq, decide_eq_false_iff_not] at hb
    refine AW.skip ?_
    refine hK3 _ _ _ ?_; clear hK3
    refine AW.seq fun K5 hK5 => ?_
    refine AW.regionK 100 (fun ii => if ii = 2 then some (.upd [] (fun k => [(0, some ⟨k, k, 3, [[.int .i64 n, .rsl 1 (lisR bel), .osl 1 (bools (List.replicate n false))]]⟩)]) (fun k => .ptr ⟨0, k, none⟩ 0 0)) else if ii = 3 then some (.reads true (.str (keyS (List.replicate n false)))) else none) [2, 3] [107] ?_
    simp only [go_sem, reduceIte, reduceCtorEq, zA, zM, zE, zL, zD, zS, zP, zB, zI, zR]
    repeat with_reducible refine cj ?_ ?_
    all_goals try first | (first | exact ho | exact hkey | exact hmw) | omega | exact ent (by kernel_rfl)
    refine hK5 _ _ _ ?_; clear hK5
    refine AW.seq fun K6 hK6 => ?_
    refine AW.seq fun K7 hK7 => ?_
    refine AW.regionK 100 (fun _ => none) [2, 3, 19] [107] ?_
    simp only [go_sem, reduceIte, reduceCtorEq, zA, zM, zE, zL, zD, zS, zP, zB, zI, zR]
    repeat with_reducible refine cj ?_ ?_
    all_goals try first | omega
    refine hK7 _ _ _ ?_; clear hK7
    refine AW.cond rfl (by simp only [go_sem, reduceIte, reduceCtorEq, zA, zM, zE, zL, zD, zS, zP, zB, zI, zR]) ?_ ?_
    · intro hb
      try simp only [hB, decide_eq_true_eq, decide_eq_false_iff_not] at hb
      exfalso; omega
    · intro hb
      try simp only [hB, decide_eq_true_eq, decide_eq_false_iff_not] at hb
      refine AW.skip ?_
      refine hK6 _ _ _ ?_; clear hK6
      refine AW.seq fun K8 hK8 => ?_
      refine AW.regionK 100 (fun _ => none) [2, 3, 4] [107] ?_
      simp only [go_sem, reduceIte, reduceCtorEq, zA, zM, zE, zL, zD, zS, zP, zB, zI, zR]
      repeat with_reducible refine cj ?_ ?_
      all_goals try first | omega
      refine hK8 _ _ _ ?_; clear hK8
      refine AW.ret ?_
      rw [← hQr]
      simp only [go_sem, reduceIte, reduceCtorEq, zA, zM, zE, zL, zD, zS, zP, zB, zI, zR]
      refine ⟨[(107, 0, true)], ?_⟩
      simp only [go_sem, reduceIte, zE, hflt]
theorem count_u (n : Nat) (t : List (List Bool)) (hs : Sq n t) (hn : n ≤ 512) (hp : poB n t = true) (hbud : cntL (belL n t) n n ≤ 5000) (hbig : allW n t ≤ 1125899906842624) : Reads Tryd.prog 13 false [relB t] (.tup [.int .i64 (allW n t), .int .i64 0]) := by
  have hc := counted_u n t hs hn hp hbud hbig
  have hflt := (downW_ok (belL n t) n (n + 1)).flt
  unfold waysE at *
  generalize allW n t = a at *
  generalize downW (belL n t) n (n + 1) = E at *
  unfold relB at *
  refine Reads.body (rs := [.tmp 2, .tmp 3]) Tryd.func13 rfl Tryd.ntmps13 rfl (by simp) ?_
  generalize hQr : retQ _ _ _ = Qr
  refine AW.seq fun K1 hK1 => ?_
  refine AW.regionK 0 (fun _ => none) [1] [1] ?_
  simp only [go_sem, reduceIte, reduceCtorEq, zA, zM, zE, zL, zD, zS, zP, zB, zI, zR]
  repeat with_reducible refine cj ?_ ?_
  all_goals try first | omega
  refine hK1 _ _ _ ?_; clear hK1
  refine AW.seq fun K2 hK2 => ?_
  refine AW.regionK 0 (fun ii => if ii = 1 then some (.upd [] (fun k => [(0, some ⟨k, k, mapSz, E⟩)]) (fun k => .tup [.mp ⟨0, k, none⟩, .int .i64 a, .int .i64 0])) else none) [5, 6] [] ?_
  simp only [go_sem, reduceIte, reduceCtorEq, zA, zM, zE, zL, zD, zS, zP, zB, zI, zR, hflt]
  repeat with_reducible refine cj ?_ ?_
  all_goals try first | (exact hc) | omega | exact ent (by kernel_rfl)
  refine hK2 _ _ _ ?_; clear hK2
  refine AW.seq fun K3 hK3 => ?_
  refine AW.regionK 0 (fun _ => none) [2, 3] [] ?_
  simp only [go_sem, reduceIte, reduceCtorEq, zA, zM, zE, zL, zD, zS, zP, zB, zI, zR]
  repeat with_reducible refine cj ?_ ?_
  all_goals try first | omega
  refine hK3 _ _ _ ?_; clear hK3
  refine AW.ret ?_
  rw [← hQr]
  simp only [go_sem, reduceIte, reduceCtorEq, zA, zM, zE, zL, zD, zS, zP, zB, zI, zR]
  exact Wk.refl _
end Go.Proofs.X

/- A region that ends in the compare of an empty slice with nil: both answers must do. -/
namespace Go.AM

theorem arun_pre {P : Program} {n base : Nat} {orc : Nat → Option Orc} {all tail : List Oper} {Q : AX → Post} {K : Post} : ∀ (rest : List Oper) (i : Nat) (e : Env) (s : Store) (k : Nat), arun P n base orc all rest i e s k K →
    ∀ x0, (∀ e s k ρ a w, K e s k → Goes x0 ⟨ρ, s, clk k, w, x0.F⟩ → St ⟨ρ, s, clk k, w, x0.F⟩ e n a → wpList P all.toArray (LiftX x0 n Q) tail a w) →
    ∀ ρ a w, Goes x0 ⟨ρ, s, clk k, w, x0.F⟩ → St ⟨ρ, s, clk k, w, x0.F⟩ e n a → wpList P all.toArray (LiftX x0 n Q) (rest ++ tail) a w
  | [], _, e, s, k, h, x0, hK, ρ, a, w, hg, hs => hK e s k ρ a w h hg hs
  | o :: rest, i, e, s, k, h, x0, hK, ρ, a, w, hg, hs => by
    have ih := arun_pre (P := P) (n := n) (base := base) (orc := orc) (all := all) (Q := Q) (tail := tail) (K := K) rest (i + 1)
    unfold arun at h
    rw [List.cons_append]
    split at h
    · exact h.elim
    · rename_i r hr
      split at h
      · rename_i hgd
        obtain ⟨hvc, hd, hrest⟩ := h
        unfold wpList
        rw [if_pos (by simp [Region.wanted, hgd])]
        refine .inl (step_sound (x := ⟨ρ, s, clk k, w, x0.F⟩) hs.ok hs.env hr hvc clk_fresh.1 clk_fresh.2 (B := k) (fun _ h => h) fun y u hgo hys hyc hru => ?_)
        have hgo2 := hgo.ok.goes_grow (s' := y.s) (c' := clk (k + 2)) (w' := y.w) (fun _ _ h => h) (fun g hg => by
          rcases hyc g hg with h1 | h1 | h1
          · exact Nat.lt_of_lt_of_le h1 (by omega)
          · simp [clk, h1]
          · simp [clk, h1]) (.refl _ _)
        have hall := hg.trans (hgo.trans hgo2)
        have hF : y.F = x0.F := hgo.F
        rw [← hys] at hrest
        rw [hF] at hall hgo2
        exact ih _ _ _ hrest x0 hK y.ρ _ y.w hall (put_env ((hgo.trans hgo2).le) hs hgo2.ok hd (hru.mono hgo2.le))
      · rename_i j want hgd
        split at h
        · rename_i q b hy
          split at h
          rotate_left
          · rename_i c u hu
            obtain ⟨hq, hb, hvc, hd, hrest⟩ := h
            have hyd := yielded_of hs hy hq
            unfold wpList
            rw [if_pos (by simp [Region.wanted, hgd, hyd, hb])]
            refine .inl (step_sound (x := ⟨ρ, s, clk k, w, x0.F⟩) hs.ok hs.env hr hvc clk_fresh.1 clk_fresh.2 (B := k) (fun _ h => h) fun y u' hgo hys hyc hru => ?_)
            have hgo2 := hgo.ok.goes_grow (s' := y.s) (c' := clk (k + 2)) (w' := y.w) (fun _ _ h => h) (fun g hg => by
              rcases hyc g hg with h1 | h1 | h1
              · exact Nat.lt_of_lt_of_le h1 (by omega)
              · simp [clk, h1]
              · simp [clk, h1]) (.refl _ _)
            have hall := hg.trans (hgo.trans hgo2)
            have hF : y.F = x0.F := hgo.F
            rw [hu] at hys
            rw [← hys] at hrest
            rw [hF] at hall hgo2
            exact ih _ _ _ hrest x0 hK y.ρ _ y.w hall (put_env ((hgo.trans hgo2).le) hs hgo2.ok hd (hru.mono hgo2.le))
          rename_i hu
          obtain ⟨hvc, hd, hrest⟩ := h
          unfold wpList
          by_cases hq : q ∧ b = want
          · have hyd := yielded_of hs hy hq.1
            rw [if_pos (by simp [Region.wanted, hgd, hyd, hq.2])]
            refine .inl (step_sound (x := ⟨ρ, s, clk k, w, x0.F⟩) hs.ok hs.env hr (hvc hq) clk_fresh.1 clk_fresh.2 (B := k) (fun _ h => h) fun y u' hgo hys hyc hru => ?_)
            have hgo2 := hgo.ok.goes_grow (s' := y.s) (c' := clk (k + 2)) (w' := y.w) (fun _ _ h => h) (fun g hg => by
              rcases hyc g hg with h1 | h1 | h1
              · exact Nat.lt_of_lt_of_le h1 (by omega)
              · simp [clk, h1]
              · simp [clk, h1]) (.refl _ _)
            have hall := hg.trans (hgo.trans hgo2)
            have hF : y.F = x0.F := hgo.F
            have hys : y.s = s := by rw [hu] at hys; exact hys
            rw [← hys] at hrest
            rw [hF] at hall hgo2
            exact ih _ _ _ hrest x0 hK y.ρ _ y.w hall (put_env ((hgo.trans hgo2).le) hs hgo2.ok hd (Rel.opt _ _ _ (fun _ => hru.mono hgo2.le) (fun hn => absurd hq hn)))
          · have hyd : Region.wanted o (yielded all.toArray a.tmps) = false := by
              by_cases hq1 : q
              · have := yielded_of hs hy hq1
                have hne : b ≠ want := fun e => hq ⟨hq1, e⟩
                simp [Region.wanted, hgd, this, hne]
              · have := yielded_not hs hy hq1
                simp [Region.wanted, hgd, this]
            rw [if_neg (by simp [hyd])]
            have hgo2 := hs.ok.goes_grow (s' := s) (c' := clk (k + 2)) (w' := w) (fun _ _ h => h) (fun g (hg : g < k) => show g < k + 2 by omega) (.refl _ _)
            exact ih _ _ _ hrest x0 hK ρ _ w (hg.trans hgo2) (put_env hgo2.le hs hgo2.ok hd (.opt _ _ _ (fun h => absurd h hq) (fun _ => rfl)))
        · exact h.elim

/-- A region whose last operation holds a slice of length 0 against nil. -/
theorem AW.regionNil {P : Program} {n id : Nat} {l : List Oper} {d T T2 : Nat} {x : Operand} {ty : TypeId} {pos : String} {es : Array Edge} {Q : AX → Post} {e : Env} {s : Store} {k : Nat} (base : Nat) (orc : Nat → Option Orc) (hd : d < n) (hT : (slD P T).isSome = true)
    (h : arun P n base orc (l ++ [Oper.mk (some d) (.binOp .eql T x (.const (.slice none 0 0)) T2) ty pos es none]) l 0 e s k fun e s k => (ev e x).1 ∧ (∃ sz, (ev e x).2 = .rsl sz []) ∧ ∀ b, Q .normal ((d, .bool b) :: e) s k) :
    AW P n (.region id (l ++ [Oper.mk (some d) (.binOp .eql T x (.const (.slice none 0 0)) T2) ty pos es none]).toArray false) Q e s k := by
  intro x0 ρ a w hg hs
  refine wp_region_lit (arun_pre l 0 e s k h x0 ?_ ρ a w hg hs)
  intro e s k ρ a w hK hg hs
  obtain ⟨h1, ⟨sz, h2⟩, h3⟩ := hK
  unfold wpList
  rw [if_pos (by simp [Region.wanted])]
  have hr := ev_rel hs.ok.gl hs.env x h1
  rw [h2] at hr
  have hsl : ∃ ad len cap, a.eval x = .slice ad len cap := by
    have := hr.rsl_inv
    generalize a.eval x = u at this
    cases this
    · exact ⟨_, _, _, rfl⟩
    · exact ⟨_, _, _, rfl⟩
  obtain ⟨ad, len, cap, hev⟩ := hsl
  obtain ⟨y, hy⟩ := Option.isSome_iff_exists.1 hT
  refine .inl (wp_value (w' := w) (s := do eqGuard .eql T x (.const (.slice none 0 0)) (a.eval x) (a.eval (.const (.slice none 0 0))); binOp .eql T (a.eval x) (a.eval (.const (.slice none 0 0)))) (u := .bool ad.isNone) (by simp only [execOp]) ?_ ?_)
  · rw [hev]
    have hg : (eqGuard .eql T x (.const (.slice none 0 0)) (.slice ad len cap) (.slice none 0 0)).run P w = .ok () w := by
      unfold eqGuard
      split <;> rfl
    show (do eqGuard .eql T x (.const (.slice none 0 0)) (.slice ad len cap) (.slice none 0 0); Go.binOp .eql T (.slice ad len cap) (.slice none 0 0)).run P w = _
    simp only [Sem.run_bind, hg, Result.andThen_ok, Go.binOp, run_nilCmp hy, Sem.run_pure]
  · exact ⟨ρ, _, s, k, h3 ad.isNone, hg, put_env (dst := some d) (.refl _) hs hs.ok hd (.bool _)⟩

end Go.AM

namespace Go.Proofs.X
open Go.AM Go
set_option maxRecDepth 100000
set_option maxHeartbeats 4000000
theorem clone_ne (l : List Int) (hl : l.length ≤ 100000) (hne : l ≠ []) :
    Upd Tryd.prog 51 [] [.rsl 1 (ints l)] (fun k => .sl ⟨0, k, none⟩ 0 l.length none) (fun k => [(0, some ⟨k, k, 1, ints l⟩)]) := by
  have hine : ints l ≠ [] := by cases l with | nil => exact absurd rfl hne | cons a l => simp [ints]
  refine Upd.of_body (rs := [.tmp 2]) Tryd.func51 rfl Tryd.ntmps51 rfl (by simp) ?_
  intro k0 k hk0 hk1
  generalize hQr : retQ _ _ _ = Qr
  refine AW.seq fun K1 hK1 => ?_
  refine AW.regionK 100 (fun _ => none) [0] [] ?_
  simp only [go_sem, reduceIte, reduceCtorEq, zA, zM, zE, zL, zD, zS, zP, zB, zI, zR, ints_len]
  repeat with_reducible refine cj ?_ ?_
  all_goals try first | omega
  refine hK1 _ _ _ ?_; clear hK1
  refine AW.seq fun K2 hK2 => ?_
  refine AW.seq fun K3 hK3 => ?_
  refine AW.regionK 100 (fun _ => none) [0, 4] [] ?_
  simp only [go_sem, reduceIte, reduceCtorEq, zA, zM, zE, zL, zD, zS, zP, zB, zI, zR, ints_len]
  repeat with_reducible refine cj ?_ ?_
  all_goals try first | (exact hine) | omega
  refine hK3 _ _ _ ?_; clear hK3
  refine AW.cond rfl (by simp only [go_sem, reduceIte, reduceCtorEq, zA, zM, zE, zL, zD, zS, zP, zB, zI, zR]) ?_ ?_
  · intro hb
    try simp only [hB, decide_eq_true_eq, decide_eq_false_iff_not] at hb
    exfalso; simp at hb
  · intro hb
    try simp only [hB, decide_eq_true_eq, decide_eq_false_iff_not] at hb
    refine AW.skip ?_
    refine hK2 _ _ _ ?_; clear hK2
    refine AW.seq fun K4 hK4 => ?_
    refine AW.regionK 100 (fun _ => none) [2] [107] ?_
    simp only [go_sem, reduceIte, reduceCtorEq, zA, zM, zE, zL, zD, zS, zP, zB, zI, zR, ints_len]
    repeat with_reducible refine cj ?_ ?_
    all_goals try first | omega | (simp [scP, scalar]; done) | exact scP_words _ | exact scP_ints _ | exact scP_bools _
    refine hK4 _ _ _ ?_; clear hK4
    refine AW.ret ?_
    rw [← hQr]
    simp only [go_sem, reduceIte, reduceCtorEq, zA, zM, zE, zL, zD, zS, zP, zB, zI, zR, ints_len]
    refine ⟨[(107, 0, true)], ?_⟩
    simp only [go_sem, reduceIte, zE, renC_ints]
theorem clone_nil :
    Upd Tryd.prog 51 [] [.rsl 1 []] (fun k => .sl ⟨0, k, none⟩ 0 0 none) (fun k => [(0, some ⟨k, k, 1, []⟩)]) := by
  refine Upd.of_body (rs := [.tmp 2]) Tryd.func51 rfl Tryd.ntmps51 rfl (by simp) ?_
  intro k0 k hk0 hk1
  generalize hQr : retQ _ _ _ = Qr
  refine AW.seq fun K1 hK1 => ?_
  refine AW.regionK 100 (fun _ => none) [0] [] ?_
  simp only [go_sem, reduceIte, reduceCtorEq, zA, zM, zE, zL, zD, zS, zP, zB, zI, zR]
  repeat with_reducible refine cj ?_ ?_
  all_goals try first | omega
  refine hK1 _ _ _ ?_; clear hK1
  refine AW.seq fun K2 hK2 => ?_
  refine AW.seq fun K3 hK3 => ?_
  refine AW.regionNil (l := [_]) 100 (fun _ => none) (by decide) (by rw [slD33]; rfl) ?_
  simp only [go_sem, reduceIte, zE]
  refine ⟨by decide, ⟨_, rfl⟩, fun b => ?_⟩
  try simp only [go_sem, reduceIte, reduceCtorEq, zA, zM, zE, zL, zD, zS, zP, zB, zI, zR]
  refine hK3 _ _ _ ?_; clear hK3
  refine AW.cond rfl (by simp only [go_sem, reduceIte, reduceCtorEq, zA, zM, zE, zL, zD, zS, zP, zB, zI, zR]) ?_ ?_
  · intro hb
    try simp only [hB, decide_eq_true_eq, decide_eq_false_iff_not] at hb
    refine AW.seq fun K4 hK4 => ?_
    refine AW.regionK 100 (fun _ => none) [2] [] ?_
    simp only [go_sem, reduceIte, reduceCtorEq, zA, zM, zE, zL, zD, zS, zP, zB, zI, zR]
    repeat with_reducible refine cj ?_ ?_
    all_goals try first | omega
    refine hK4 _ _ _ ?_; clear hK4
    refine AW.nilOwn 2 107 1 rfl ?_
    simp only [go_sem, reduceIte, zE]
    refine AW.ret ?_
    rw [← hQr]
    simp only [go_sem, reduceIte, reduceCtorEq, zA, zM, zE, zL, zD, zS, zP, zB, zI, zR]
    refine ⟨[(107, 0, true)], ?_⟩
    simp only [go_sem, reduceIte, zE, renC_ints]
  · intro hb
    try simp only [hB, decide_eq_true_eq, decide_eq_false_iff_not] at hb
    refine AW.skip ?_
    refine hK2 _ _ _ ?_; clear hK2
    refine AW.seq fun K5 hK5 => ?_
    refine AW.regionK 100 (fun _ => none) [2] [107] ?_
    simp only [go_sem, reduceIte, reduceCtorEq, zA, zM, zE, zL, zD, zS, zP, zB, zI, zR]
    repeat with_reducible refine cj ?_ ?_
    all_goals try first | omega | (simp [scP, scalar]; done) | exact scP_words _ | exact scP_ints _ | exact scP_bools _
    refine hK5 _ _ _ ?_; clear hK5
    refine AW.ret ?_
    rw [← hQr]
    simp only [go_sem, reduceIte, reduceCtorEq, zA, zM, zE, zL, zD, zS, zP, zB, zI, zR]
    refine ⟨[(107, 0, true)], ?_⟩
    simp only [go_sem, reduceIte, zE, renC_ints]
theorem clone_u (l : List Int) (hl : l.length ≤ 100000) :
    Upd Tryd.prog 51 [] [.rsl 1 (ints l)] (fun k => .sl ⟨0, k, none⟩ 0 l.length none) (fun k => [(0, some ⟨k, k, 1, ints l⟩)]) := by
  by_cases h : l = []
  · subst h; exact clone_nil
  · exact clone_ne l hl h
end Go.Proofs.X

/- The next extension, as the program seeks it. -/
namespace Go.AM
def dAt (n : Nat) (l : List Int) (m : Nat) : List Bool := exD (List.replicate n false) (l.take m)
theorem dAt_len (n : Nat) (l : List Int) (m : Nat) : (dAt n l m).length = n := by unfold dAt; rw [exD_len]; simp
theorem dAt_succ {n : Nat} {l : List Int} {m : Nat} (h : m < l.length) : dAt n l (m + 1) = (dAt n l m).set (l.getD m 0).toNat true := by
  unfold dAt
  rw [List.take_add_one, List.getElem?_eq_getElem h, Option.toList_some, exD_snoc]
  simp [List.getD_eq_getElem?_getD, List.getElem?_eq_getElem h]
theorem extGo_at {n : Nat} {bel : List (List Int)} {d : List Bool} {l : List Int} (h : extGo n bel d l = true) {m : Nat} (hm : m < l.length) : exOk n bel (exD d (l.take m)) (l.getD m 0) = true := by
  have h1 := extGo_app n bel (l.take m) (l.drop m) d
  rw [List.take_append_drop, h] at h1
  have h2 : extGo n bel (exD d (l.take m)) (l.drop m) = true := by
    cases e : extGo n bel (exD d (l.take m)) (l.drop m) with
    | true => rfl
    | false => rw [e] at h1; simp at h1
  rw [List.drop_eq_getElem_cons hm] at h2
  unfold extGo at h2
  simp only [Bool.and_eq_true] at h2
  have : l.getD m 0 = l[m] := by simp [List.getD_eq_getElem?_getD, List.getElem?_eq_getElem hm]
  rw [this]; exact h2.1
structure IsExt (n : Nat) (bel : List (List Int)) (l : List Int) : Prop where
  len : l.length = n
  rng : ∀ m, m < n → 0 ≤ l.getD m 0 ∧ l.getD m 0 < (n : Int)
  free : ∀ m, m < n → freeL bel (dAt n l m) (l.getD m 0).toNat = true
theorem extB_iff {n : Nat} {bel : List (List Int)} {l : List Int} : extB n bel l = true ↔ IsExt n bel l := by
  constructor
  · intro h
    unfold extB at h
    simp only [Bool.and_eq_true, decide_eq_true_eq] at h
    have key := fun m (hm : m < n) => extGo_at h.2 (m := m) (by omega)
    unfold exOk at key
    simp only [Bool.and_eq_true, decide_eq_true_eq] at key
    exact ⟨h.1, fun m hm => (key m hm).1, fun m hm => (key m hm).2⟩
  · intro h
    unfold extB
    simp only [Bool.and_eq_true, decide_eq_true_eq]
    refine ⟨h.len, ?_⟩
    have : ∀ m, m ≤ n → extGo n bel (List.replicate n false) (l.take m) = true := by
      intro m
      induction m with
      | zero => intro _; simp [extGo]
      | succ m ih =>
        intro hm
        rw [List.take_add_one, List.getElem?_eq_getElem (by rw [h.len]; omega), Option.toList_some, extGo_app, ih (by omega), Bool.true_and]
        have h1 := h.rng m (by omega)
        have h2 := h.free m (by omega)
        have e : l[m]'(by rw [h.len]; omega) = l.getD m 0 := by simp [List.getD_eq_getElem?_getD, List.getElem?_eq_getElem (show m < l.length by rw [h.len]; omega)]
        rw [e]
        unfold dAt at h2
        simp only [extGo, exOk, h1.1, h1.2, h2, decide_true, Bool.and_self]
    have := this n (Nat.le_refl _)
    rwa [List.take_of_length_le (by rw [h.len]; exact Nat.le_refl _)] at this
theorem freeL_not {bel : List (List Int)} {d : List Bool} {i : Nat} (h : freeL bel d i = true) : d.getD i false = false := by
  unfold freeL at h
  cases e : d.getD i false with
  | false => rfl
  | true => rw [e] at h; simp at h
theorem IsExt.cnt {n : Nat} {bel : List (List Int)} {l : List Int} (h : IsExt n bel l) : ∀ m, m ≤ n → cntT (dAt n l m) = m
  | 0, _ => by simp [dAt, exD, cntT_rep]
  | m + 1, hm => by
    have h1 := h.rng m (by omega)
    rw [dAt_succ (by rw [h.len]; omega), cntT_set (by rw [dAt_len]; omega) (freeL_not (h.free m (by omega))), h.cnt m (by omega)]
theorem IsExt.back {n : Nat} {bel : List (List Int)} {l : List Int} (h : IsExt n bel l) {m : Nat} (hm : m < n) : (dAt n l (m + 1)).set (l.getD m 0).toNat false = dAt n l m := by
  have h1 := h.rng m hm
  rw [dAt_succ (by rw [h.len]; omega), List.set_set]
  have h2 := freeL_not (h.free m hm)
  apply List.ext_getElem?
  intro x
  rw [List.getElem?_set]
  split
  · rename_i e
    subst e
    rw [if_pos (by rw [dAt_len]; omega), List.getElem?_eq_getElem (by rw [dAt_len]; omega)]
    rw [List.getD_eq_getElem?_getD, List.getElem?_eq_getElem (by rw [dAt_len]; omega)] at h2
    simpa using h2.symm
  · rfl
theorem all_true {d : List Bool} (h : cntT d = d.length) : d = List.replicate d.length true := by
  unfold cntT at h
  rw [List.countP_eq_length] at h
  exact List.eq_replicate_iff.2 ⟨rfl, fun b hb => h b hb⟩
theorem IsExt.full {n : Nat} {bel : List (List Int)} {l : List Int} (h : IsExt n bel l) : dAt n l n = List.replicate n true := by
  have := all_true (d := dAt n l n) (by rw [h.cnt n (Nat.le_refl _), dAt_len])
  rwa [dAt_len] at this
def nextK (bel : List (List Int)) (n : Nat) (l : List Int) : Nat → Option (List Int)
  | 0 => none
  | m + 1 => if 0 ≤ nxt (freeL bel (dAt n l m)) n ((l.getD m 0).toNat + 1) then
      some (finI bel n ((dAt n l m).set (nxt (freeL bel (dAt n l m)) n ((l.getD m 0).toNat + 1)).toNat true, l.take m ++ [nxt (freeL bel (dAt n l m)) n ((l.getD m 0).toNat + 1)]) (n - (m + 1))).2
    else nextK bel n l m
theorem nextK_hit {bel : List (List Int)} {n : Nat} {l : List Int} {m : Nat} (h : 0 ≤ nxt (freeL bel (dAt n l m)) n ((l.getD m 0).toNat + 1)) : nextK bel n l (m + 1) = some (finI bel n ((dAt n l m).set (nxt (freeL bel (dAt n l m)) n ((l.getD m 0).toNat + 1)).toNat true, l.take m ++ [nxt (freeL bel (dAt n l m)) n ((l.getD m 0).toNat + 1)]) (n - (m + 1))).2 := if_pos h
theorem nextK_miss {bel : List (List Int)} {n : Nat} {l : List Int} {m : Nat} (h : ¬ 0 ≤ nxt (freeL bel (dAt n l m)) n ((l.getD m 0).toNat + 1)) : nextK bel n l (m + 1) = nextK bel n l m := if_neg h
end Go.AM

namespace Go.Proofs.X
open Go.AM Go
set_option maxRecDepth 100000
set_option maxHeartbeats 4000000
def nextV : Option (List Int) → AV
  | none => .tup [.rsl 1 [], .int .i64 7]
  | some l => .tup [.rsl 1 (ints l), .int .i64 0]
theorem next_f (n : Nat) (t : List (List Bool)) (hs : Sq n t) (hn : n ≤ 512) (hp : poB n t = true) (l : List Int) (hx : extB n (belL n t) l = true) : Reads Tryd.prog 16 true [relB t, .rsl 1 (ints l)] (nextV (nextK (belL n t) n l n)) := by
  have hv := pvalid_g n t hs hn
  rw [hp] at hv
  have hpo := (poB_iff hs).1 hp
  have hIE := extB_iff.1 hx
  have hln := hIE.len
  have he := extends_g n t hs hn l (by omega)
  rw [hx] at he
  have ho := open_u n t hs hn
  have hok := belL_ok t hn
  have hcl := fun m => clone_u (l.take m)
  have hnext := fun m i hi => next_r hok (dAt n l m) (dAt_len n l m) i hi
  have hfin := fun (m : Nat) (i : Int) (hm : m < n) (h0 : 0 ≤ i) (h1 : freeL (belL n t) (dAt n l m) i.toNat = true) (h2 : i.toNat < n) => finish_u hok ((dAt n l m).set i.toNat true) (l.take m ++ [i]) (by simp [dAt_len]) (by simp; omega)
    (fun j hj => fin_nxt hpo _ _ (by simp [dAt_len]) (by rw [cntT_set (by rw [dAt_len]; exact h2) (freeL_not h1), hIE.cnt m (by omega)]; simp; omega) j hj)
  unfold stO stV relB at *
  generalize belL n t = bel at *
  refine Reads.bodyF (rs := [.tmp 4, .tmp 5]) Tryd.func16 rfl Tryd.ntmps16 rfl (by simp) ?_
  generalize hQr : retQ _ _ _ = Qr
  refine AW.seq fun K1 hK1 => ?_
  refine AW.regionK 0 (fun _ => none) [1, 2] [2, 20] ?_
  simp only [go_sem, reduceIte, reduceCtorEq, zA, zM, zE, zL, zD, zS, zP, zB, zI, zR, bools_len, ints_len]
  repeat with_reducible refine cj ?_ ?_
  all_goals try first | omega
  refine hK1 _ _ _ ?_; clear hK1
  refine AW.seq fun K2 hK2 => ?_
  refine AW.block ?_
  refine AW.seq fun K3 hK3 => ?_
  refine AW.regionK 0 (fun ii => if ii = 1 then some (.reads false (.bool true)) else none) [1, 2, 10] [2, 20] ?_
  simp only [go_sem, reduceIte, reduceCtorEq, zA, zM, zE, zL, zD, zS, zP, zB, zI, zR, bools_len, ints_len]
  repeat with_reducible refine cj ?_ ?_
  all_goals try first | (exact hv) | omega | exact ent (by kernel_rfl)
  refine hK3 _ _ _ ?_; clear hK3
  refine AW.cond rfl (by simp only [go_sem, reduceIte, reduceCtorEq, zA, zM, zE, zL, zD, zS, zP, zB, zI, zR]) ?_ ?_
  · intro hb
    try simp only [hB, decide_eq_true_eq, decide_eq_false_iff_not] at hb
    exfalso; simp at hb
  · intro hb
    try simp only [hB, decide_eq_true_eq, decide_eq_false_iff_not] at hb
    refine AW.seq fun K4 hK4 => ?_
    refine AW.regionK 0 (fun ii => if ii = 2 then some (.reads false (.bool true)) else none) [1, 2, 14] [2, 20] ?_
    simp only [go_sem, reduceIte, reduceCtorEq, zA, zM, zE, zL, zD, zS, zP, zB, zI, zR, bools_len, ints_len]
    repeat with_reducible refine cj ?_ ?_
    all_goals try first | (exact he) | omega | exact ent (by kernel_rfl)
    refine hK4 _ _ _ ?_; clear hK4
    refine AW.cond rfl (by simp only [go_sem, reduceIte, reduceCtorEq, zA, zM, zE, zL, zD, zS, zP, zB, zI, zR]) ?_ ?_
    · intro hb
      try simp only [hB, decide_eq_true_eq, decide_eq_false_iff_not] at hb
      exfalso; simp at hb
    · intro hb
      try simp only [hB, decide_eq_true_eq, decide_eq_false_iff_not] at hb
      refine AW.skip ?_
      refine hK2 _ _ _ ?_; clear hK2
      refine AW.seq fun K5 hK5 => ?_
      refine AW.regionK 0 (fun ii => if ii = 1 then some (.upd [] (fun k => [(0, some ⟨k, k, 3, [[.int .i64 n, .rsl 1 (lisR bel), .osl 1 (bools (List.replicate n false))]]⟩)]) (fun k => .ptr ⟨0, k, none⟩ 0 0)) else none) [1, 6] [20] ?_
      simp only [go_sem, reduceIte, reduceCtorEq, zA, zM, zE, zL, zD, zS, zP, zB, zI, zR, bools_len, ints_len]
      repeat with_reducible refine cj ?_ ?_
      all_goals try first | (exact ho) | omega | exact ent (by kernel_rfl)
      refine hK5 _ _ _ ?_; clear hK5
      refine AW.seq fun K6 hK6 => ?_
      refine AW.seq fun K7 hK7 => ?_
      refine AW.regionK 0 (fun _ => none) [1, 6, 25, 26] [20] ?_
      simp only [go_sem, reduceIte, reduceCtorEq, zA, zM, zE, zL, zD, zS, zP, zB, zI, zR, bools_len, ints_len]
      repeat with_reducible refine cj ?_ ?_
      all_goals try first | omega
      refine hK7 _ _ _ ?_; clear hK7
      refine AW.block ?_
      refine AW.loopE (fun mm ee ss kk => ∃ (j g v : Nat), n - j = mm ∧ ee = [(1, .rsl 1 (ints l)), (6, .ptr ⟨20, g, none⟩ 0 0), (25, .int .i64 n), (26, .int .i64 (j : Nat))] ∧ ss = [(20, some ⟨g, v, 3, [[.int .i64 n, .rsl 1 (lisR bel), .osl 1 (bools (List.replicate j true ++ List.replicate (n - j) false))]]⟩)] ∧ (j ≤ n)) ?_ ?_
      · refine ⟨_, 0, ?_, ?_, rfl, ?henv, ?hstore, ?hst⟩
        case henv =>
          repeat' (first | rfl | refine env_cons ?_ ?_ | refine st_cons ?_ ?_ ?_ ?_ | refine int_eq ?_ | refine bool_eq ?_ | refine rsl_eq ?_ | refine osl_eq ?_ | refine sl_eq ?_ ?_ ?_ | refine ptr_eq ?_ ?_ ?_ | refine agg_eq ?_ | refine es_cons ?_ ?_ | refine row_cons ?_ ?_)
          all_goals (first | omega | (simp; done))
        case hstore =>
          repeat' (first | rfl | refine env_cons ?_ ?_ | refine st_cons ?_ ?_ ?_ ?_ | refine int_eq ?_ | refine bool_eq ?_ | refine rsl_eq ?_ | refine osl_eq ?_ | refine sl_eq ?_ ?_ ?_ | refine ptr_eq ?_ ?_ ?_ | refine agg_eq ?_ | refine es_cons ?_ ?_ | refine row_cons ?_ ?_)
          all_goals (simp)
        case hst =>
          first | trivial | omega | (simp; done) | (simp; omega)
      rintro mm ee ss kk ⟨j, g, v, rfl, rfl, rfl, hI⟩
      generalize hQl1 : thenQ _ _ = Ql1
      refine AW.seq fun K8 hK8 => ?_
      refine AW.regionK 0 (fun _ => none) [1, 6, 25, 26, 27] [20] ?_
      simp only [go_sem, reduceIte, reduceCtorEq, zA, zM, zE, zL, zD, zS, zP, zB, zI, zR, bools_len, ints_len]
      repeat with_reducible refine cj ?_ ?_
      all_goals try first | omega
      refine hK8 _ _ _ ?_; clear hK8
      refine AW.seq fun K9 hK9 => ?_
      refine AW.cond rfl (by simp only [go_sem, reduceIte, reduceCtorEq, zA, zM, zE, zL, zD, zS, zP, zB, zI, zR]) ?_ ?_
      · intro hb
        try simp only [hB, decide_eq_true_eq, decide_eq_false_iff_not] at hb
        have hj : j < n := by omega
        have hrl : (List.replicate j true ++ List.replicate (n - j) false).length = n := by simp; omega
        have hrs : (List.replicate j true ++ List.replicate (n - j) false).set j true = List.replicate (j + 1) true ++ List.replicate (n - (j + 1)) false := by
          rw [List.set_append_right _ _ (by simp), show n - j = (n - (j + 1)) + 1 by omega, List.replicate_succ, List.replicate_succ' (n := j)]
          simp
        refine AW.skip ?_
        refine hK9 _ _ _ ?_; clear hK9
        refine AW.seq fun K10 hK10 => ?_
        refine AW.block ?_
        refine AW.seq fun K11 hK11 => ?_
        refine AW.regionK 0 (fun _ => none) [1, 6, 7, 25, 26] [20] ?_
        simp only [go_sem, reduceIte, reduceCtorEq, zA, zM, zE, zL, zD, zS, zP, zB, zI, zR, bools_len, ints_len]
        repeat with_reducible refine cj ?_ ?_
        all_goals try first | omega
        refine hK11 _ _ _ ?_; clear hK11
        refine AW.regionK 0 (fun _ => none) [1, 6, 25, 26] [20] ?_
        simp only [go_sem, reduceIte, reduceCtorEq, zA, zM, zE, zL, zD, zS, zP, zB, zI, zR, bools_len, ints_len, hrl, hrs, bools_upd]
        repeat with_reducible refine cj ?_ ?_
        all_goals try first | omega
        refine hK10 _ _ _ ?_; clear hK10
        refine AW.regionK 0 (fun _ => none) [1, 6, 25, 26] [20] ?_
        simp only [go_sem, reduceIte, reduceCtorEq, zA, zM, zE, zL, zD, zS, zP, zB, zI, zR, bools_len, ints_len]
        repeat with_reducible refine cj ?_ ?_
        all_goals try first | omega
        rw [← hQl1]
        change Exists _
        refine ⟨_, ?hm, j + 1, ?_, ?_, rfl, ?henv, ?hstore, ?hst⟩
        case henv =>
          repeat' (first | rfl | refine env_cons ?_ ?_ | refine st_cons ?_ ?_ ?_ ?_ | refine int_eq ?_ | refine bool_eq ?_ | refine rsl_eq ?_ | refine osl_eq ?_ | refine sl_eq ?_ ?_ ?_ | refine ptr_eq ?_ ?_ ?_ | refine agg_eq ?_ | refine es_cons ?_ ?_ | refine row_cons ?_ ?_)
          all_goals (first | (simp; done) | omega | (simp; omega))
        case hstore =>
          repeat' (first | rfl | refine env_cons ?_ ?_ | refine st_cons ?_ ?_ ?_ ?_ | refine int_eq ?_ | refine bool_eq ?_ | refine rsl_eq ?_ | refine osl_eq ?_ | refine sl_eq ?_ ?_ ?_ | refine ptr_eq ?_ ?_ ?_ | refine agg_eq ?_ | refine es_cons ?_ ?_ | refine row_cons ?_ ?_)
          all_goals (first | (simp; done) | omega | (simp; omega))
        case hst =>
          omega
        case hm => omega
      · intro hb
        try simp only [hB, decide_eq_true_eq, decide_eq_false_iff_not] at hb
        have hj : n = j := by omega
        subst hj
        have hrf : List.replicate n true ++ List.replicate (n - n) false = dAt n l n := by rw [hIE.full]; simp
        rw [hrf]
        refine AW.keep [1, 6] [20] ?_
        try simp only [go_sem, reduceIte, reduceCtorEq, zA, zM, zE, zL, zD, zS, zP, zB, zI, zR]
        refine AW.exit ?_
        rw [← hQl1]
        refine hK6 _ _ _ ?_; clear hK6
        refine AW.seq fun K12 hK12 => ?_
        refine AW.seq fun K13 hK13 => ?_
        refine AW.regionK 0 (fun _ => none) [1, 6, 8] [20] ?_
        simp only [go_sem, reduceIte, reduceCtorEq, zA, zM, zE, zL, zD, zS, zP, zB, zI, zR, bools_len, ints_len]
        repeat with_reducible refine cj ?_ ?_
        all_goals try first | omega
        refine hK13 _ _ _ ?_; clear hK13
        refine AW.block ?_
        refine AW.loopE (fun mm ee ss kk => ∃ (m g v : Nat), m + 1 = mm ∧ ee = [(1, .rsl 1 (ints l)), (6, .ptr ⟨20, g, none⟩ 0 0), (8, .int .i64 ((m : Int) - 1))] ∧ ss = [(20, some ⟨g, v, 3, [[.int .i64 n, .rsl 1 (lisR bel), .osl 1 (bools (dAt n l m))]]⟩)] ∧ (m ≤ n ∧ nextK bel n l n = nextK bel n l m)) ?_ ?_
        · refine ⟨_, n, ?_, ?_, rfl, ?henv, ?hstore, ?hst⟩
          case henv =>
            repeat' (first | rfl | refine env_cons ?_ ?_ | refine st_cons ?_ ?_ ?_ ?_ | refine int_eq ?_ | refine bool_eq ?_ | refine rsl_eq ?_ | refine osl_eq ?_ | refine sl_eq ?_ ?_ ?_ | refine ptr_eq ?_ ?_ ?_ | refine agg_eq ?_ | refine es_cons ?_ ?_ | refine row_cons ?_ ?_)
            all_goals (first | omega | (simp; done))
          case hstore =>
            repeat' (first | rfl | refine env_cons ?_ ?_ | refine st_cons ?_ ?_ ?_ ?_ | refine int_eq ?_ | refine bool_eq ?_ | refine rsl_eq ?_ | refine osl_eq ?_ | refine sl_eq ?_ ?_ ?_ | refine ptr_eq ?_ ?_ ?_ | refine agg_eq ?_ | refine es_cons ?_ ?_ | refine row_cons ?_ ?_)
            all_goals (first | (simp; done) | omega | (simp; omega))
          case hst =>
            exact ⟨by omega, rfl⟩
        rintro mm ee ss kk ⟨m, g, v, rfl, rfl, rfl, hI⟩
        generalize hQl2 : thenQ _ _ = Ql2
        obtain ⟨hm, hnk⟩ := hI
        refine AW.seq fun K14 hK14 => ?_
        refine AW.seq fun K15 hK15 => ?_
        refine AW.regionK 0 (fun _ => none) [1, 6, 8, 40] [20] ?_
        simp only [go_sem, reduceIte, reduceCtorEq, zA, zM, zE, zL, zD, zS, zP, zB, zI, zR, bools_len, ints_len]
        repeat with_reducible refine cj ?_ ?_
        all_goals try first | omega
        refine hK15 _ _ _ ?_; clear hK15
        refine AW.cond rfl (by simp only [go_sem, reduceIte, reduceCtorEq, zA, zM, zE, zL, zD, zS, zP, zB, zI, zR]) ?_ ?_
        · intro hb
          try simp only [hB, decide_eq_true_eq, decide_eq_false_iff_not] at hb
          obtain ⟨q, rfl⟩ : ∃ q, m = q + 1 := ⟨m - 1, by omega⟩
          have hq : q < n := by omega
          have hq1 : (((q + 1 : Nat) : Int) - 1).toNat = q := by omega
          have hgx := ints_getD (l := l) (i := q) (by omega)
          obtain ⟨hx0, hx1⟩ := hIE.rng q hq
          have hbk := hIE.back hq
          have hdl := dAt_len n l (q + 1)
          have hdl2 := dAt_len n l q
          have hnx := Reads.flat (hnext q ((l.getD q 0).toNat + 1) (by omega)) rfl
          have hkh := nextK_hit (bel := bel) (n := n) (l := l) (m := q)
          have hkm := nextK_miss (bel := bel) (n := n) (l := l) (m := q)
          have hxs : l.getD q 0 + 1 = (((l.getD q 0).toNat + 1 : Nat) : Int) := by omega
          have hil := nxt_lt (freeL bel (dAt n l q)) n ((l.getD q 0).toNat + 1)
          have hii := nxt_is (p := freeL bel (dAt n l q)) (n := n) (i := (l.getD q 0).toNat + 1)
          have hfq := hfin q
          have hcq := hcl q
          generalize hX : l.getD q 0 = x at *
          generalize hN : nxt (freeL bel (dAt n l q)) n (x.toNat + 1) = i at *
          refine AW.skip ?_
          refine hK14 _ _ _ ?_; clear hK14
          refine AW.seq fun K16 hK16 => ?_
          refine AW.block ?_
          refine AW.seq fun K17 hK17 => ?_
          refine AW.regionD mixed 0 (fun _ => none) [1, 6, 8] [20] ?_
          simp only [go_sem, reduceIte, reduceCtorEq, zA, zM, zE, zL, zD, zS, zP, zB, zI, zR, bools_len, ints_len, hq1, hgx, hdl, hbk, bools_upd]
          repeat with_reducible refine cj ?_ ?_
          all_goals try first | omega | exact chk (by kernel_rfl)
          refine hK17 _ _ _ ?_; clear hK17
          refine AW.seq fun K18 hK18 => ?_
          refine AW.regionK 0 (fun ii => if ii = 6 then some (.reads true (.int .i64 i)) else none) [1, 6, 8, 9] [20] ?_
          simp only [go_sem, reduceIte, reduceCtorEq, zA, zM, zE, zL, zD, zS, zP, zB, zI, zR, bools_len, ints_len, hq1, hgx, hxs]
          repeat with_reducible refine cj ?_ ?_
          all_goals try first | (exact hnx) | omega | exact ent (by kernel_rfl)
          refine hK18 _ _ _ ?_; clear hK18
          refine AW.seq fun K19 hK19 => ?_
          refine AW.regionK 0 (fun _ => none) [1, 6, 8, 9, 60] [20] ?_
          simp only [go_sem, reduceIte, reduceCtorEq, zA, zM, zE, zL, zD, zS, zP, zB, zI, zR, bools_len, ints_len]
          repeat with_reducible refine cj ?_ ?_
          all_goals try first | omega
          refine hK19 _ _ _ ?_; clear hK19
          refine AW.cond rfl (by simp only [go_sem, reduceIte, reduceCtorEq, zA, zM, zE, zL, zD, zS, zP, zB, zI, zR]) ?_ ?_
          · intro hb
            try simp only [hB, decide_eq_true_eq, decide_eq_false_iff_not] at hb
            obtain ⟨k, hk1, hk2, hk3, hk4⟩ := hii hb
            have hkn : i.toNat = k := by omega
            have hnk2 := hkh hb
            have hfq := hfq i hq hb (by rw [hkn]; exact hk4) (by omega)
            have hcq := hcq (by simp; omega)
            have hlt : (l.take q).length = q := by simp; omega
            have hlt2 : (l.take q ++ [i]).length = q + 1 := by simp; omega
            have hfl := finI_l bel n ((dAt n l q).set i.toNat true, l.take q ++ [i]) (n - (q + 1))
            simp only [hlt2] at hfl
            rw [hlt2] at hfq
            rw [hlt] at hcq
            generalize hF : finI bel n ((dAt n l q).set i.toNat true, l.take q ++ [i]) (n - (q + 1)) = F at *
            have hft : F.2.take n = F.2 := List.take_of_length_le (by omega)
            refine AW.seq fun K20 hK20 => ?_
            refine AW.regionK 0 (fun _ => none) [1, 6, 8, 9] [20] ?_
            simp only [go_sem, reduceIte, reduceCtorEq, zA, zM, zE, zL, zD, zS, zP, zB, zI, zR, bools_len, ints_len, hdl2, bools_upd]
            repeat with_reducible refine cj ?_ ?_
            all_goals try first | omega
            refine hK20 _ _ _ ?_; clear hK20
            refine AW.seq fun K21 hK21 => ?_
            refine AW.regionK 0 (fun ii => if ii = 4 then some (.upd [] (fun k => [(0, some ⟨k, k, 1, ints (l.take q)⟩)]) (fun k => .sl ⟨0, k, none⟩ 0 q none)) else if ii = 8 then some (.upd [20, 71] (fun k => [(0, some ⟨g, k, 3, [[.int .i64 n, .rsl 1 (lisR bel), .osl 1 (bools F.1)]]⟩), (1, some ⟨k, k, 1, ints F.2⟩)]) (fun k => .sl ⟨1, k, none⟩ 0 n none)) else none) [4, 5] [20, 71] ?_
            simp only [go_sem, reduceIte, reduceCtorEq, zA, zM, zE, zL, zD, zS, zP, zB, zI, zR, bools_len, ints_len, hq1, List.take_take, Nat.min_self, ints_app, renC_ints]
            repeat with_reducible refine cj ?_ ?_
            all_goals try first | (first | exact hcq | exact hfq _ _ _ _) | omega | exact ent (by kernel_rfl) | (simp [scP, scalar]; done) | exact scP_words _ | exact scP_ints _ | exact scP_bools _
            refine hK21 _ _ _ ?_; clear hK21
            refine AW.ret ?_
            rw [← hQl2]
            rw [← hQr]
            simp only [go_sem, reduceIte, reduceCtorEq, zA, zM, zE, zL, zD, zS, zP, zB, zI, zR, bools_len, ints_len]
            exact Wk.of_eq (by rw [hnk, hnk2, hft]; rfl)
          · intro hb
            try simp only [hB, decide_eq_true_eq, decide_eq_false_iff_not] at hb
            have hnk2 := hkm (by omega)
            refine AW.skip ?_
            refine hK16 _ _ _ ?_; clear hK16
            refine AW.regionK 0 (fun _ => none) [1, 6, 8] [20] ?_
            simp only [go_sem, reduceIte, reduceCtorEq, zA, zM, zE, zL, zD, zS, zP, zB, zI, zR, bools_len, ints_len]
            repeat with_reducible refine cj ?_ ?_
            all_goals try first | omega
            rw [← hQl2]
            change Exists _
            refine ⟨_, ?hm, q, ?_, ?_, rfl, ?henv, ?hstore, ?hst⟩
            case henv =>
              repeat' (first | rfl | refine env_cons ?_ ?_ | refine st_cons ?_ ?_ ?_ ?_ | refine int_eq ?_ | refine bool_eq ?_ | refine rsl_eq ?_ | refine osl_eq ?_ | refine sl_eq ?_ ?_ ?_ | refine ptr_eq ?_ ?_ ?_ | refine agg_eq ?_ | refine es_cons ?_ ?_ | refine row_cons ?_ ?_)
              all_goals (omega)
            case hstore =>
              repeat' (first | rfl | refine env_cons ?_ ?_ | refine st_cons ?_ ?_ ?_ ?_ | refine int_eq ?_ | refine bool_eq ?_ | refine rsl_eq ?_ | refine osl_eq ?_ | refine sl_eq ?_ ?_ ?_ | refine ptr_eq ?_ ?_ ?_ | refine agg_eq ?_ | refine es_cons ?_ ?_ | refine row_cons ?_ ?_)
              all_goals (first | (simp; done) | omega | (simp; omega))
            case hst =>
              exact ⟨by omega, by rw [hnk, hnk2]⟩
            case hm => omega
        · intro hb
          try simp only [hB, decide_eq_true_eq, decide_eq_false_iff_not] at hb
          have hm0 : m = 0 := by omega
          subst hm0
          refine AW.keep [] [20] ?_
          try simp only [go_sem, reduceIte, reduceCtorEq, zA, zM, zE, zL, zD, zS, zP, zB, zI, zR]
          refine AW.exit ?_
          rw [← hQl2]
          refine hK12 _ _ _ ?_; clear hK12
          refine AW.seq fun K22 hK22 => ?_
          refine AW.regionK 0 (fun _ => none) [4, 5] [20] ?_
          simp only [go_sem, reduceIte, reduceCtorEq, zA, zM, zE, zL, zD, zS, zP, zB, zI, zR, bools_len, ints_len]
          repeat with_reducible refine cj ?_ ?_
          all_goals try first | omega
          refine hK22 _ _ _ ?_; clear hK22
          refine AW.ret ?_
          rw [← hQr]
          simp only [go_sem, reduceIte, reduceCtorEq, zA, zM, zE, zL, zD, zS, zP, zB, zI, zR, bools_len, ints_len]
          exact Wk.trans (Wk.tup2 (Wk.nil 1) (Wk.refl _)) (Wk.of_eq (by rw [hnk]; rfl))
end Go.Proofs.X

/- How many extensions go on from an ideal; what the map of ways says; ranks. -/
namespace Go.AM
def sumF (p : Nat → Bool) (f : Nat → Nat) (m : Nat) : Nat := fr p (fun s x => s + f x) m 0
theorem sumF_zero (p : Nat → Bool) (f : Nat → Nat) : sumF p f 0 = 0 := rfl
theorem sumF_succ {p : Nat → Bool} (f : Nat → Nat) {k : Nat} (h : p k = true) : sumF p f (k + 1) = sumF p f k + f k := fr_succ _ h _
theorem sumF_miss {p : Nat → Bool} (f : Nat → Nat) {k : Nat} (h : p k = false) : sumF p f (k + 1) = sumF p f k := fr_miss _ h _
theorem sumF_mono (p : Nat → Bool) (f : Nat → Nat) (i : Nat) : ∀ j, i ≤ j → sumF p f i ≤ sumF p f j
  | 0, h => by rw [Nat.le_zero.1 h]; exact Nat.le_refl _
  | j + 1, h => by
    rcases Nat.eq_or_lt_of_le h with e | e
    · rw [e]; exact Nat.le_refl _
    · have := sumF_mono p f i j (by omega)
      cases hp : p j with
      | true => rw [sumF_succ f hp]; omega
      | false => rw [sumF_miss f hp]; exact this
theorem sumF_skip {p : Nat → Bool} (f : Nat → Nat) {i k : Nat} (h : i ≤ k) (hp : ∀ j, i ≤ j → j < k → p j = false) : sumF p f k = sumF p f i := fr_skip _ i k 0 h hp
theorem sum_next {p : Nat → Bool} (f : Nat → Nat) {n i x : Nat} (hi : i ≤ x) (hx : x ≤ n) : ((0 ≤ nxt p n i ∧ nxt p n i < (x : Int)) → ∃ k : Nat, nxt p n i = (k : Nat) ∧ i ≤ k ∧ k < x ∧ p k = true ∧ sumF p f (k + 1) = sumF p f i + f k) ∧ (¬ (0 ≤ nxt p n i ∧ nxt p n i < (x : Int)) → sumF p f x = sumF p f i) := by
  rcases nxt_spec (p := p) (n := n) (n - i) i rfl with ⟨h1, h2⟩ | ⟨k, h1, h2, h3, h4, h5⟩
  · exact ⟨fun h => by omega, fun _ => sumF_skip f hi fun j h3 h4 => h2 j h3 (by omega)⟩
  · refine ⟨fun h => ⟨k, h1, h2, by omega, h4, by rw [sumF_succ f h4, sumF_skip f h2 h5]⟩, fun h => sumF_skip f hi fun j h6 h7 => h5 j h6 (by omega)⟩
/-- How many ways to place the m elements that are left. -/
def cE (bel : List (List Int)) (n : Nat) : Nat → List Bool → Nat
  | 0, _ => 1
  | m + 1, S => sumF (freeL bel S) (fun x => cE bel n m (S.set x true)) n
/-! ### A map after a put. -/
theorem keyEq_eq {S : List Bool} {r : AV} (h : keyEq (.str (keyS S)) r = true) (T : List Bool) : keyEq (.str (keyS T)) r = decide (T = S) := by
  cases r with
  | str b =>
    have h0 : (keyS S == b) = true := h
    have h1 : (keyS S).data = b.data := by rw [ba_beq] at h0; exact eq_of_beq h0
    show (keyS T == b) = _
    rw [ba_beq, ← h1, ← ba_beq]
    exact keyEq_str T S
  | _ => simp [keyEq] at h
theorem mapAt_put (S T : List Bool) (v : AV) : ∀ (es : List (List AV)), mapAt (mapPut es (.str (keyS S)) v) (.str (keyS T)) = if T = S then some v else mapAt es (.str (keyS T)) := by
  have key : ∀ (es : List (List AV)) (i : Nat), (mapFind (mapPut es (.str (keyS S)) v) (.str (keyS T)) i).map (·.2) = if T = S then some v else (mapFind es (.str (keyS T)) i).map (·.2) := by
    intro es
    induction es with
    | nil =>
      intro i
      simp only [mapPut, mapFind]
      have : (([AV.str (keyS S), v] : List AV).getD 0 .any) = .str (keyS S) := rfl
      rw [this, keyEq_str]
      by_cases h : T = S <;> simp [h]
    | cons row es ih =>
      intro i
      unfold mapPut
      by_cases h : keyEq (.str (keyS S)) (row.getD 0 .any) = true
      · rw [if_pos h]
        have hT := keyEq_eq h T
        simp only [mapFind]
        have : (([AV.str (keyS S), v] : List AV).getD 0 .any) = .str (keyS S) := rfl
        rw [this, keyEq_str, hT]
        by_cases e : T = S <;> simp [e]
      · rw [if_neg h]
        simp only [mapFind]
        by_cases e : keyEq (.str (keyS T)) (row.getD 0 .any) = true
        · rw [if_pos e, if_pos e]
          by_cases e2 : T = S
          · subst e2; exact absurd e h
          · simp [e2]
        · rw [if_neg e, if_neg e]
          exact ih (i + 1)
  intro es
  exact key es 0
theorem mapI_put (es : List (List AV)) (S T : List Bool) (v : Int) : mapI (mapPut es (.str (keyS S)) (.int .i64 v)) (.str (keyS T)) = if T = S then v else mapI es (.str (keyS T)) := by
  unfold mapI
  rw [mapAt_put]
  by_cases h : T = S <;> simp [h]
theorem fr_congr {α : Type} {p : Nat → Bool} {f g : α → Nat → α} : ∀ m (a : α), (∀ a x, x < m → p x = true → f a x = g a x) → fr p f m a = fr p g m a
  | 0, _, _ => rfl
  | m + 1, a, h => by
    have ih := fr_congr (p := p) (f := f) (g := g) m a fun a x hx => h a x (by omega)
    cases hp : p m with
    | true => rw [fr_succ f hp, fr_succ g hp, ih, h _ m (by omega) hp]
    | false => rw [fr_miss f hp, fr_miss g hp, ih]
theorem wayS_congr {bel : List (List Int)} {n a : Nat} {es es' : List (List AV)} {S : List Bool} (hS : S.length = n) (h : ∀ T, cntT T = cntT S + 1 → mapI es (.str (keyS T)) = mapI es' (.str (keyS T))) : wayS bel n es S a = wayS bel n es' S a := by
  unfold wayS sumW
  split
  · rfl
  · exact fr_congr n 0 fun s x hx hp => by rw [h (S.set x true) (cntT_set (by omega) (freeL_not hp))]
theorem steps_other {bel : List (List Int)} {n a : Nat} {T : List Bool} : ∀ (L : List (List Bool)) (es : List (List AV)), T ∉ L → mapI (L.foldl (stepW bel n a) es) (.str (keyS T)) = mapI es (.str (keyS T))
  | [], _, _ => rfl
  | S :: L, es, h => by
    rw [List.foldl_cons, steps_other L _ (fun h' => h (List.mem_cons_of_mem _ h'))]
    unfold stepW
    have hne : T ≠ S := fun e => h (by rw [e]; exact List.mem_cons_self)
    rw [mapI_put, if_neg hne]
theorem steps_at {bel : List (List Int)} {n a : Nat} {T : List Bool} : ∀ (L : List (List Bool)) (es : List (List AV)), (∀ S ∈ L, S.length = n ∧ cntT S = a) → T ∈ L → mapI (L.foldl (stepW bel n a) es) (.str (keyS T)) = wayS bel n es T a
  | S :: L, es, hL, h => by
    have hS := hL S List.mem_cons_self
    have hstep : ∀ U, cntT U = a + 1 → mapI (stepW bel n a es S) (.str (keyS U)) = mapI es (.str (keyS U)) := fun U hU => by
      unfold stepW
      rw [mapI_put, if_neg (fun e => by rw [e, hS.2] at hU; omega)]
    rw [List.foldl_cons]
    by_cases hT : T ∈ L
    · rw [steps_at L _ (fun S h => hL S (List.mem_cons_of_mem _ h)) hT]
      have hT2 := hL T (List.mem_cons_of_mem _ hT)
      exact wayS_congr hT2.1 fun U hU => hstep U (by rw [hU, hT2.2])
    · rcases List.mem_cons.1 h with e | e
      · subst e
        rw [steps_other L _ hT]
        unfold stepW
        rw [mapI_put, if_pos rfl]
      · exact absurd e hT
theorem lvAt_cnt {bel : List (List Int)} {n : Nat} : ∀ {j : Nat} {S : List Bool}, S ∈ lvAt bel n j → cntT S = j
  | 0, S, h => by rw [List.mem_singleton.1 h]; exact cntT_rep n
  | j + 1, S, h => by
    obtain ⟨S', h1, x, hx, hf, rfl⟩ := mem_nextL.1 h
    rw [cntT_set (by rw [lvAt_len h1]; exact hx) (freeL_not hf), lvAt_cnt h1]
theorem lvAt_next {bel : List (List Int)} {n j x : Nat} {S : List Bool} (h : S ∈ lvAt bel n j) (hx : x < n) (hf : freeL bel S x = true) : S.set x true ∈ lvAt bel n (j + 1) := mem_nextL.2 ⟨S, h, x, hx, hf, rfl⟩
theorem min_sum {p : Nat → Bool} {f : Nat → Nat} {w : Nat → Int} : ∀ m, (∀ x, x < m → p x = true → w x = min (f x : Int) 1125899906842625) → fr p (fun s x => min (s + w x) 1125899906842625) m (0 : Int) = min (sumF p f m : Int) 1125899906842625
  | 0, _ => by simp only [fr_zero, sumF_zero]; decide
  | m + 1, h => by
    have ih := min_sum (p := p) (f := f) (w := w) m fun x hx => h x (by omega)
    cases hp : p m with
    | true => rw [fr_succ _ hp, sumF_succ f hp, ih, h m (by omega) hp]; omega
    | false => rw [fr_miss _ hp, sumF_miss f hp, ih]
theorem downW_spec {bel : List (List Int)} {n : Nat} : ∀ m, m ≤ n + 1 → ∀ a, n < a + m → a ≤ n → ∀ S ∈ lvAt bel n a, mapI (downW bel n m) (.str (keyS S)) = min (cE bel n (n - a) S : Int) 1125899906842625
  | 0, _, a, h1, h2, _, _ => by omega
  | m + 1, hm, a, h1, h2, S, hS => by
    have ih := downW_spec (bel := bel) (n := n) m (by omega)
    have hL : ∀ T ∈ lvAt bel n (n - m), T.length = n ∧ cntT T = n - m := fun T hT => ⟨lvAt_len hT, lvAt_cnt hT⟩
    show mapI ((lvAt bel n (n - m)).foldl (stepW bel n (n - m)) (downW bel n m)) _ = _
    by_cases e : a = n - m
    · subst e
      rw [steps_at _ _ hL hS]
      unfold wayS
      by_cases e2 : n - m = n
      · rw [if_pos e2, show n - (n - m) = 0 by omega]; simp only [cE]; decide
      · rw [if_neg e2]
        obtain ⟨q, hq⟩ : ∃ q, n - (n - m) = q + 1 := ⟨m - 1, by omega⟩
        rw [hq]
        unfold sumW cE
        refine min_sum n fun x hx hf => ?_
        have := ih (n - m + 1) (by omega) (by omega) _ (lvAt_next hS hx hf)
        rw [show n - (n - m + 1) = q by omega] at this
        exact this
    · rw [steps_other _ _ (fun h => by
        have h3 := lvAt_cnt h
        rw [lvAt_cnt hS] at h3
        exact e h3)]
      exact ih a (by omega) h2 S hS
theorem ways_spec {bel : List (List Int)} {n a : Nat} (ha : a ≤ n) {S : List Bool} (hS : S ∈ lvAt bel n a) : mapI (waysE bel n) (.str (keyS S)) = min (cE bel n (n - a) S : Int) 1125899906842625 :=
  downW_spec (n + 1) (Nat.le_refl _) a (by omega) ha S hS
/-! ### Ranks. -/
theorem IsExt.lv {n : Nat} {bel : List (List Int)} {l : List Int} (h : IsExt n bel l) : ∀ m, m ≤ n → dAt n l m ∈ lvAt bel n m
  | 0, _ => by simp [dAt, exD, lvAt]
  | m + 1, hm => by
    have h1 := h.rng m (by omega)
    rw [dAt_succ (by rw [h.len]; omega)]
    exact lvAt_next (h.lv m (by omega)) (by omega) (h.free m (by omega))
def rankC (bel : List (List Int)) (n : Nat) (l : List Int) : Nat → Nat
  | 0 => 0
  | m + 1 => rankC bel n l m + sumF (freeL bel (dAt n l m)) (fun x => cE bel n (n - (m + 1)) ((dAt n l m).set x true)) (l.getD m 0).toNat
theorem cE_at {bel : List (List Int)} {n m : Nat} (hm : m < n) (S : List Bool) : cE bel n (n - m) S = sumF (freeL bel S) (fun x => cE bel n (n - (m + 1)) (S.set x true)) n := by
  obtain ⟨q, hq⟩ : ∃ q, n - m = q + 1 := ⟨n - m - 1, by omega⟩
  rw [hq, show n - (m + 1) = q by omega]; rfl
theorem IsExt.step {n : Nat} {bel : List (List Int)} {l : List Int} (h : IsExt n bel l) {m : Nat} (hm : m < n) : rankC bel n l (m + 1) + cE bel n (n - (m + 1)) (dAt n l (m + 1)) ≤ rankC bel n l m + cE bel n (n - m) (dAt n l m) := by
  have h1 := h.rng m hm
  have h2 := h.free m hm
  rw [cE_at hm, dAt_succ (by rw [h.len]; omega)]
  have h3 := sumF_succ (p := freeL bel (dAt n l m)) (fun x => cE bel n (n - (m + 1)) ((dAt n l m).set x true)) h2
  have h4 := sumF_mono (freeL bel (dAt n l m)) (fun x => cE bel n (n - (m + 1)) ((dAt n l m).set x true)) ((l.getD m 0).toNat + 1) n (by omega)
  show rankC bel n l m + _ + _ ≤ _
  omega
theorem IsExt.down {n : Nat} {bel : List (List Int)} {l : List Int} (h : IsExt n bel l) (m : Nat) : ∀ q, m ≤ q → q ≤ n → rankC bel n l q + cE bel n (n - q) (dAt n l q) ≤ rankC bel n l m + cE bel n (n - m) (dAt n l m)
  | 0, h1, _ => by rw [Nat.le_zero.1 h1]; exact Nat.le_refl _
  | q + 1, h1, h2 => by
    rcases Nat.eq_or_lt_of_le h1 with e | e
    · rw [e]; exact Nat.le_refl _
    · exact Nat.le_trans (h.step (by omega)) (h.down m q (by omega) (by omega))
theorem IsExt.bound {n : Nat} {bel : List (List Int)} {l : List Int} (h : IsExt n bel l) {m : Nat} (hm : m < n) {i : Nat} (hi : i ≤ n) : rankC bel n l m + sumF (freeL bel (dAt n l m)) (fun x => cE bel n (n - (m + 1)) ((dAt n l m).set x true)) i ≤ cE bel n n (List.replicate n false) := by
  have h1 := h.down 0 m (Nat.zero_le _) (by omega)
  have h2 := cE_at (bel := bel) hm (dAt n l m)
  have h4 := sumF_mono (freeL bel (dAt n l m)) (fun x => cE bel n (n - (m + 1)) ((dAt n l m).set x true)) i n hi
  have h5 : dAt n l 0 = List.replicate n false := rfl
  have h6 : rankC bel n l 0 = 0 := rfl
  rw [h5, h6, Nat.sub_zero] at h1
  omega
/-- The rank by the map of ways. -/
theorem IsExt.ways {n : Nat} {bel : List (List Int)} {l : List Int} (h : IsExt n bel l) (hbig : cE bel n n (List.replicate n false) ≤ 1125899906842624) {m : Nat} (hm : m < n) {x : Nat} (hx : x < n) (hf : freeL bel (dAt n l m) x = true) :
    mapI (waysE bel n) (.str (keyS ((dAt n l m).set x true))) = (cE bel n (n - (m + 1)) ((dAt n l m).set x true) : Int) := by
  rw [ways_spec (a := m + 1) (by omega) (lvAt_next (h.lv m (by omega)) hx hf)]
  have h1 := h.down 0 m (Nat.zero_le _) (by omega)
  have h2 := cE_at (bel := bel) hm (dAt n l m)
  have h3 := sumF_succ (p := freeL bel (dAt n l m)) (fun x => cE bel n (n - (m + 1)) ((dAt n l m).set x true)) hf
  have h4 := sumF_mono (freeL bel (dAt n l m)) (fun x => cE bel n (n - (m + 1)) ((dAt n l m).set x true)) (x + 1) n (by omega)
  have h5 : dAt n l 0 = List.replicate n false := rfl
  have h6 : rankC bel n l 0 = 0 := rfl
  rw [h5, h6, Nat.sub_zero] at h1
  omega
end Go.AM

namespace Go.Proofs.X
open Go.AM Go
set_option maxRecDepth 100000
set_option maxHeartbeats 4000000
theorem allW_eq (n : Nat) (t : List (List Bool)) : allW n t = min (cE (belL n t) n n (List.replicate n false) : Int) 1125899906842625 := by
  have := ways_spec (bel := belL n t) (n := n) (a := 0) (Nat.zero_le _) (S := List.replicate n false) (by simp [lvAt])
  exact this
theorem rank_u (n : Nat) (t : List (List Bool)) (hs : Sq n t) (hn : n ≤ 512) (hp : poB n t = true) (hbud : cntL (belL n t) n n ≤ 5000) (hbig : allW n t ≤ 1125899906842624) (l : List Int) (hx : extB n (belL n t) l = true) :
    Reads Tryd.prog 26 false [relB t, .rsl 1 (ints l)] (.tup [.int .i64 (rankC (belL n t) n l n : Nat), .int .i64 0]) := by
  have hv := pvalid_g n t hs hn
  rw [hp] at hv
  have hIE := extB_iff.1 hx
  have hln := hIE.len
  have hc := counted_u n t hs hn hp hbud hbig
  have hcb : cE (belL n t) n n (List.replicate n false) ≤ 1125899906842624 := by rw [allW_eq] at hbig; omega
  have hWk := downW_ok (belL n t) n (n + 1)
  have hmw := hWk.mapWf (P := Tryd.prog) keyOk9
  have hflt := hWk.flt
  have he := extends_g n t hs hn l (by omega)
  rw [hx] at he
  have ho := open_u n t hs hn
  have hok := belL_ok t hn
  have hways := fun m (hm : m < n) x (hx : x < n) hf => hIE.ways hcb hm hx hf
  have hbnd := fun m (hm : m < n) i hi => hIE.bound (i := i) hm hi
  have hkey := fun d hd => Reads.flat (key_r n (belL n t) d hd hn) rfl
  have hnext := fun m i hi => Reads.flat (next_r hok (dAt n l m) (dAt_len n l m) i hi) rfl
  unfold waysE at *
  generalize downW (belL n t) n (n + 1) = E at *
  generalize allW n t = A at *
  unfold stO stV relB at *
  generalize belL n t = bel at *
  refine Reads.body (rs := [.tmp 4, .tmp 5]) Tryd.func26 rfl Tryd.ntmps26 rfl (by simp) ?_
  generalize hQr : retQ _ _ _ = Qr
  refine AW.seq fun K1 hK1 => ?_
  refine AW.regionK 0 (fun _ => none) [1, 2] [2, 25, 33] ?_
  simp only [go_sem, reduceIte, reduceCtorEq, zA, zM, zE, zL, zD, zS, zP, zB, zI, zR, bools_len, ints_len]
  repeat with_reducible refine cj ?_ ?_
  all_goals try first | omega
  refine hK1 _ _ _ ?_; clear hK1
  refine AW.seq fun K2 hK2 => ?_
  refine AW.block ?_
  refine AW.seq fun K3 hK3 => ?_
  refine AW.regionK 0 (fun ii => if ii = 1 then some (.reads false (.bool true)) else none) [1, 2, 14] [2, 25, 33] ?_
  simp only [go_sem, reduceIte, reduceCtorEq, zA, zM, zE, zL, zD, zS, zP, zB, zI, zR, bools_len, ints_len]
  repeat with_reducible refine cj ?_ ?_
  all_goals try first | (exact hv) | omega | exact ent (by kernel_rfl)
  refine hK3 _ _ _ ?_; clear hK3
  refine AW.cond rfl (by simp only [go_sem, reduceIte, reduceCtorEq, zA, zM, zE, zL, zD, zS, zP, zB, zI, zR]) ?_ ?_
  · intro hb
    try simp only [hB, decide_eq_true_eq, decide_eq_false_iff_not] at hb
    exfalso; simp at hb
  · intro hb
    try simp only [hB, decide_eq_true_eq, decide_eq_false_iff_not] at hb
    refine AW.seq fun K4 hK4 => ?_
    refine AW.regionK 0 (fun ii => if ii = 2 then some (.reads false (.bool true)) else none) [1, 2, 18] [2, 25, 33] ?_
    simp only [go_sem, reduceIte, reduceCtorEq, zA, zM, zE, zL, zD, zS, zP, zB, zI, zR, bools_len, ints_len]
    repeat with_reducible refine cj ?_ ?_
    all_goals try first | (exact he) | omega | exact ent (by kernel_rfl)
    refine hK4 _ _ _ ?_; clear hK4
    refine AW.cond rfl (by simp only [go_sem, reduceIte, reduceCtorEq, zA, zM, zE, zL, zD, zS, zP, zB, zI, zR]) ?_ ?_
    · intro hb
      try simp only [hB, decide_eq_true_eq, decide_eq_false_iff_not] at hb
      exfalso; simp at hb
    · intro hb
      try simp only [hB, decide_eq_true_eq, decide_eq_false_iff_not] at hb
      refine AW.skip ?_
      refine hK2 _ _ _ ?_; clear hK2
      refine AW.seq fun K5 hK5 => ?_
      refine AW.regionK 0 (fun ii => if ii = 1 then some (.upd [] (fun k => [(0, some ⟨k, k, mapSz, E⟩)]) (fun k => .tup [.mp ⟨0, k, none⟩, .int .i64 A, .int .i64 0])) else none) [1, 2, 6, 8] [2, 25] ?_
      simp only [go_sem, reduceIte, reduceCtorEq, zA, zM, zE, zL, zD, zS, zP, zB, zI, zR, bools_len, ints_len, hflt]
      repeat with_reducible refine cj ?_ ?_
      all_goals try first | (exact hc) | omega | exact ent (by kernel_rfl)
      refine hK5 _ _ _ ?_; clear hK5
      refine AW.seq fun K6 hK6 => ?_
      refine AW.seq fun K7 hK7 => ?_
      refine AW.regionK 0 (fun _ => none) [1, 2, 6, 8, 30] [2, 25] ?_
      simp only [go_sem, reduceIte, reduceCtorEq, zA, zM, zE, zL, zD, zS, zP, zB, zI, zR, bools_len, ints_len]
      repeat with_reducible refine cj ?_ ?_
      all_goals try first | omega
      refine hK7 _ _ _ ?_; clear hK7
      refine AW.cond rfl (by simp only [go_sem, reduceIte, reduceCtorEq, zA, zM, zE, zL, zD, zS, zP, zB, zI, zR]) ?_ ?_
      · intro hb
        try simp only [hB, decide_eq_true_eq, decide_eq_false_iff_not] at hb
        exfalso; simp at hb
      · intro hb
        try simp only [hB, decide_eq_true_eq, decide_eq_false_iff_not] at hb
        refine AW.skip ?_
        refine hK6 _ _ _ ?_; clear hK6
        refine AW.seq fun K8 hK8 => ?_
        refine AW.regionK 0 (fun ii => if ii = 1 then some (.upd [] (fun k => [(0, some ⟨k, k, 3, [[.int .i64 n, .rsl 1 (lisR bel), .osl 1 (bools (List.replicate n false))]]⟩)]) (fun k => .ptr ⟨0, k, none⟩ 0 0)) else none) [1, 6, 9] [25, 33] ?_
        simp only [go_sem, reduceIte, reduceCtorEq, zA, zM, zE, zL, zD, zS, zP, zB, zI, zR, bools_len, ints_len]
        repeat with_reducible refine cj ?_ ?_
        all_goals try first | (exact ho) | omega | exact ent (by kernel_rfl)
        refine hK8 _ _ _ ?_; clear hK8
        refine AW.seq fun K9 hK9 => ?_
        refine AW.regionK 0 (fun _ => none) [1, 6, 9, 10] [25, 33] ?_
        simp only [go_sem, reduceIte, reduceCtorEq, zA, zM, zE, zL, zD, zS, zP, zB, zI, zR, bools_len, ints_len]
        repeat with_reducible refine cj ?_ ?_
        all_goals try first | omega
        refine hK9 _ _ _ ?_; clear hK9
        refine AW.seq fun K10 hK10 => ?_
        refine AW.seq fun K11 hK11 => ?_
        refine AW.regionK 0 (fun _ => none) [6, 9, 10, 34, 35, 36] [25, 33] ?_
        simp only [go_sem, reduceIte, reduceCtorEq, zA, zM, zE, zL, zD, zS, zP, zB, zI, zR, bools_len, ints_len]
        repeat with_reducible refine cj ?_ ?_
        all_goals try first | omega
        refine hK11 _ _ _ ?_; clear hK11
        refine AW.block ?_
        refine AW.loopE (fun mm ee ss kk => ∃ (k g3 v3 g5 v5 : Nat), n - k = mm ∧ ee = [(6, .mp ⟨25, g3, none⟩), (9, .ptr ⟨33, g5, none⟩ 0 0), (10, .int .i64 (rankC bel n l k : Nat)), (34, .rsl 1 (ints l)), (35, .int .i64 n), (36, .int .i64 (k : Nat))] ∧ ss = [(25, some ⟨g3, v3, mapSz, E⟩), (33, some ⟨g5, v5, 3, [[.int .i64 n, .rsl 1 (lisR bel), .osl 1 (bools (dAt n l k))]]⟩)] ∧ (k ≤ n)) ?_ ?_
        · refine ⟨_, 0, ?_, ?_, ?_, ?_, rfl, ?henv, ?hstore, ?hst⟩
          case henv =>
            repeat' (first | rfl | refine env_cons ?_ ?_ | refine st_cons ?_ ?_ ?_ ?_ | refine int_eq ?_ | refine bool_eq ?_ | refine rsl_eq ?_ | refine osl_eq ?_ | refine sl_eq ?_ ?_ ?_ | refine ptr_eq ?_ ?_ ?_ | refine agg_eq ?_ | refine es_cons ?_ ?_ | refine row_cons ?_ ?_)
            all_goals (first | omega | rfl | (rw [hln]))
          case hstore =>
            repeat' (first | rfl | refine env_cons ?_ ?_ | refine st_cons ?_ ?_ ?_ ?_ | refine int_eq ?_ | refine bool_eq ?_ | refine rsl_eq ?_ | refine osl_eq ?_ | refine sl_eq ?_ ?_ ?_ | refine ptr_eq ?_ ?_ ?_ | refine agg_eq ?_ | refine es_cons ?_ ?_ | refine row_cons ?_ ?_)
            all_goals (first | (simp; done) | omega | (simp; omega))
          case hst =>
            first | trivial | omega | (simp; done) | (simp; omega)
        rintro mm ee ss kk ⟨k, g3, v3, g5, v5, rfl, rfl, rfl, hI⟩
        generalize hQl1 : thenQ _ _ = Ql1
        have hdl := dAt_len n l k
        refine AW.seq fun K12 hK12 => ?_
        refine AW.regionK 0 (fun _ => none) [6, 9, 10, 34, 35, 36, 37] [25, 33] ?_
        simp only [go_sem, reduceIte, reduceCtorEq, zA, zM, zE, zL, zD, zS, zP, zB, zI, zR, bools_len, ints_len]
        repeat with_reducible refine cj ?_ ?_
        all_goals try first | omega
        refine hK12 _ _ _ ?_; clear hK12
        refine AW.seq fun K13 hK13 => ?_
        refine AW.cond rfl (by simp only [go_sem, reduceIte, reduceCtorEq, zA, zM, zE, zL, zD, zS, zP, zB, zI, zR]) ?_ ?_
        · intro hb
          try simp only [hB, decide_eq_true_eq, decide_eq_false_iff_not] at hb
          have hk : k < n := by omega
          have hgx := ints_getD (l := l) (i := k) (by omega)
          obtain ⟨hx0, hx1⟩ := hIE.rng k hk
          have hfx := hIE.free k hk
          have hds := dAt_succ (n := n) (l := l) (m := k) (by omega)
          have hnx := hnext k
          have hwy := hways k hk
          have hbd := hbnd k hk
          have hrs : rankC bel n l (k + 1) = rankC bel n l k + sumF (freeL bel (dAt n l k)) (fun x => cE bel n (n - (k + 1)) ((dAt n l k).set x true)) (l.getD k 0).toNat := rfl
          generalize hX : l.getD k 0 = x at *
          generalize hD : dAt n l k = d at *
          refine AW.skip ?_
          refine hK13 _ _ _ ?_; clear hK13
          refine AW.seq fun K14 hK14 => ?_
          refine AW.block ?_
          refine AW.seq fun K15 hK15 => ?_
          refine AW.regionK 0 (fun _ => none) [6, 9, 10, 12, 34, 35, 36] [25, 33] ?_
          simp only [go_sem, reduceIte, reduceCtorEq, zA, zM, zE, zL, zD, zS, zP, zB, zI, zR, bools_len, ints_len, hgx]
          repeat with_reducible refine cj ?_ ?_
          all_goals try first | omega
          refine hK15 _ _ _ ?_; clear hK15
          refine AW.seq fun K16 hK16 => ?_
          refine AW.seq fun K17 hK17 => ?_
          refine AW.regionK 0 (fun ii => if ii = 1 then some (.reads true (.int .i64 (nxt (freeL bel d) n 0))) else none) [6, 9, 10, 12, 13, 34, 35, 36] [25, 33] ?_
          simp only [go_sem, reduceIte, reduceCtorEq, zA, zM, zE, zL, zD, zS, zP, zB, zI, zR, bools_len, ints_len]
          repeat with_reducible refine cj ?_ ?_
          all_goals try first | (exact hnx 0 (by omega)) | omega | exact ent (by kernel_rfl)
          refine hK17 _ _ _ ?_; clear hK17
          refine AW.block ?_
          refine AW.loopE (fun mm ee ss kk => ∃ (i g3 v3 g5 v5 : Nat), n + 1 - i = mm ∧ ee = [(6, .mp ⟨25, g3, none⟩), (9, .ptr ⟨33, g5, none⟩ 0 0), (10, .int .i64 (rankC bel n l k + sumF (freeL bel d) (fun x => cE bel n (n - (k + 1)) (d.set x true)) i : Nat)), (12, .int .i64 x), (13, .int .i64 (nxt (freeL bel d) n i)), (34, .rsl 1 (ints l)), (35, .int .i64 n), (36, .int .i64 (k : Nat))] ∧ ss = [(25, some ⟨g3, v3, mapSz, E⟩), (33, some ⟨g5, v5, 3, [[.int .i64 n, .rsl 1 (lisR bel), .osl 1 (bools d)]]⟩)] ∧ (i ≤ x.toNat)) ?_ ?_
          · refine ⟨_, 0, ?_, ?_, ?_, ?_, rfl, ?henv, ?hstore, ?hst⟩
            case henv =>
              repeat' (first | rfl | refine env_cons ?_ ?_ | refine st_cons ?_ ?_ ?_ ?_ | refine int_eq ?_ | refine bool_eq ?_ | refine rsl_eq ?_ | refine osl_eq ?_ | refine sl_eq ?_ ?_ ?_ | refine ptr_eq ?_ ?_ ?_ | refine agg_eq ?_ | refine es_cons ?_ ?_ | refine row_cons ?_ ?_)
              all_goals (first | (simp; done) | omega | (simp; omega))
            case hstore =>
              repeat' (first | rfl | refine env_cons ?_ ?_ | refine st_cons ?_ ?_ ?_ ?_ | refine int_eq ?_ | refine bool_eq ?_ | refine rsl_eq ?_ | refine osl_eq ?_ | refine sl_eq ?_ ?_ ?_ | refine ptr_eq ?_ ?_ ?_ | refine agg_eq ?_ | refine es_cons ?_ ?_ | refine row_cons ?_ ?_)
              all_goals (first | (simp; done) | omega | (simp; omega))
            case hst =>
              first | trivial | omega | (simp; done) | (simp; omega)
          rintro mm ee ss kk ⟨i, g3, v3, g5, v5, rfl, rfl, rfl, hI⟩
          generalize hQl2 : thenQ _ _ = Ql2
          have hsn := sum_next (p := freeL bel d) (fun x => cE bel n (n - (k + 1)) (d.set x true)) (n := n) (i := i) (x := x.toNat) hI (by omega)
          refine AW.seq fun K18 hK18 => ?_
          refine AW.seq fun K19 hK19 => ?_
          refine AW.regionK 0 (fun _ => none) [6, 9, 10, 12, 13, 34, 35, 36, 48] [25, 33] ?_
          simp only [go_sem, reduceIte, reduceCtorEq, zA, zM, zE, zL, zD, zS, zP, zB, zI, zR, bools_len, ints_len]
          repeat with_reducible refine cj ?_ ?_
          all_goals try first | omega | (intros; (repeat' apply And.intro) <;> first | assumption | omega | decide) | (intro hgd; exact absurd hgd (by decide)) | rfl | (simp only [go_sem, reduceIte, reduceCtorEq, zA, zM, zE, zL, zD, zS, zP, zB, zI, zR, bools_len, ints_len]; done) | (intro _hgd; simp_all [go_sem]; done)
          refine hK19 _ _ _ ?_; clear hK19
          refine AW.cond rfl (by simp only [go_sem, reduceIte, reduceCtorEq, zA, zM, zE, zL, zD, zS, zP, zB, zI, zR]) ?_ ?_
          · intro hb
            try simp only [hB, decide_eq_true_eq, decide_eq_false_iff_not] at hb
            have hb2 : 0 ≤ nxt (freeL bel d) n i ∧ nxt (freeL bel d) n i < (x.toNat : Int) := by
              omega
            obtain ⟨q, hq1, hq2, hq3, hq4, hq5⟩ := hsn.1 hb2
            clear hsn
            have hdq := freeL_not hq4
            have hxt : (nxt (freeL bel d) n i).toNat = q := by omega
            have hxr : 0 ≤ nxt (freeL bel d) n i ∧ nxt (freeL bel d) n i < (n : Int) := by omega
            have hxs : nxt (freeL bel d) n i + 1 = ((q + 1 : Nat) : Int) := by omega
            have hd2 : (d.set q true).length = n := by rw [List.length_set]; exact hdl
            have hk2 := hkey _ hd2
            have hw2 := hwy q (by omega) hq4
            have hn2 := hnx (q + 1) (by omega)
            have hb3 := hbd (q + 1) (by omega)
            have hss : (d.set q true).set q false = d := by rw [List.set_set, ← hdq]; exact set_same d q false
            have hsum : ((rankC bel n l k + sumF (freeL bel d) (fun x => cE bel n (n - (k + 1)) (d.set x true)) i : Nat) : Int) + (cE bel n (n - (k + 1)) (d.set q true) : Nat) = ((rankC bel n l k + sumF (freeL bel d) (fun x => cE bel n (n - (k + 1)) (d.set x true)) (q + 1) : Nat) : Int) := by rw [hq5]; omega
            refine AW.skip ?_
            refine hK18 _ _ _ ?_; clear hK18
            refine AW.seq fun K20 hK20 => ?_
            refine AW.block ?_
            refine AW.seq fun K21 hK21 => ?_
            refine AW.regionK 0 (fun _ => none) [6, 9, 10, 12, 13, 34, 35, 36] [25, 33] ?_
            simp only [go_sem, reduceIte, reduceCtorEq, zA, zM, zE, zL, zD, zS, zP, zB, zI, zR, bools_len, ints_len, hxt, hdl, bools_upd]
            repeat with_reducible refine cj ?_ ?_
            all_goals try first | omega
            refine hK21 _ _ _ ?_; clear hK21
            refine AW.seq fun K22 hK22 => ?_
            refine AW.regionK 0 (fun ii => if ii = 3 then some (.reads true (.str (keyS (d.set q true)))) else none) [6, 9, 10, 12, 13, 34, 35, 36] [25, 33] ?_
            simp only [go_sem, reduceIte, reduceCtorEq, zA, zM, zE, zL, zD, zS, zP, zB, zI, zR, bools_len, ints_len, hw2, hsum]
            repeat with_reducible refine cj ?_ ?_
            all_goals try first | (first | exact hk2 | exact hmw) | omega | exact ent (by kernel_rfl)
            refine hK22 _ _ _ ?_; clear hK22
            refine AW.regionK 0 (fun _ => none) [6, 9, 10, 12, 13, 34, 35, 36] [25, 33] ?_
            simp only [go_sem, reduceIte, reduceCtorEq, zA, zM, zE, zL, zD, zS, zP, zB, zI, zR, bools_len, ints_len, hxt, hd2, bools_upd, hss]
            repeat with_reducible refine cj ?_ ?_
            all_goals try first | omega
            refine hK20 _ _ _ ?_; clear hK20
            refine AW.regionK 0 (fun ii => if ii = 3 then some (.reads true (.int .i64 (nxt (freeL bel d) n (q + 1)))) else none) [6, 9, 10, 12, 13, 34, 35, 36] [25, 33] ?_
            simp only [go_sem, reduceIte, reduceCtorEq, zA, zM, zE, zL, zD, zS, zP, zB, zI, zR, bools_len, ints_len, hxs]
            repeat with_reducible refine cj ?_ ?_
            all_goals try first | (exact hn2) | omega | exact ent (by kernel_rfl)
            rw [← hQl2]
            change Exists _
            refine ⟨_, ?hm, q + 1, ?_, ?_, ?_, ?_, rfl, ?henv, ?hstore, ?hst⟩
            case henv =>
              repeat' (first | rfl | refine env_cons ?_ ?_ | refine st_cons ?_ ?_ ?_ ?_ | refine int_eq ?_ | refine bool_eq ?_ | refine rsl_eq ?_ | refine osl_eq ?_ | refine sl_eq ?_ ?_ ?_ | refine ptr_eq ?_ ?_ ?_ | refine agg_eq ?_ | refine es_cons ?_ ?_ | refine row_cons ?_ ?_)
              all_goals (first | (simp; done) | omega | (simp; omega))
            case hstore =>
              repeat' (first | rfl | refine env_cons ?_ ?_ | refine st_cons ?_ ?_ ?_ ?_ | refine int_eq ?_ | refine bool_eq ?_ | refine rsl_eq ?_ | refine osl_eq ?_ | refine sl_eq ?_ ?_ ?_ | refine ptr_eq ?_ ?_ ?_ | refine agg_eq ?_ | refine es_cons ?_ ?_ | refine row_cons ?_ ?_)
              all_goals (first | (simp; done) | omega | (simp; omega))
            case hst =>
              omega
            case hm => omega
          · intro hb
            try simp only [hB, decide_eq_true_eq, decide_eq_false_iff_not] at hb
            have hb9 : ¬ (0 ≤ nxt (freeL bel d) n i ∧ nxt (freeL bel d) n i < (x.toNat : Int)) := by
              clear hsn
              omega
            have hse := hsn.2 hb9
            clear hsn
            rw [← hse, ← hrs]
            refine AW.keep [6, 9, 10, 12, 34, 35, 36] [25, 33] ?_
            try simp only [go_sem, reduceIte, reduceCtorEq, zA, zM, zE, zL, zD, zS, zP, zB, zI, zR]
            refine AW.exit ?_
            rw [← hQl2]
            refine hK16 _ _ _ ?_; clear hK16
            refine AW.regionK 0 (fun _ => none) [6, 9, 10, 34, 35, 36] [25, 33] ?_
            simp only [go_sem, reduceIte, reduceCtorEq, zA, zM, zE, zL, zD, zS, zP, zB, zI, zR, bools_len, ints_len, hdl, bools_upd]
            repeat with_reducible refine cj ?_ ?_
            all_goals try first | omega
            refine hK14 _ _ _ ?_; clear hK14
            refine AW.regionK 0 (fun _ => none) [6, 9, 10, 34, 35, 36] [25, 33] ?_
            simp only [go_sem, reduceIte, reduceCtorEq, zA, zM, zE, zL, zD, zS, zP, zB, zI, zR, bools_len, ints_len]
            repeat with_reducible refine cj ?_ ?_
            all_goals try first | omega
            rw [← hQl1]
            change Exists _
            refine ⟨_, ?hm, k + 1, ?_, ?_, ?_, ?_, rfl, ?henv, ?hstore, ?hst⟩
            case henv =>
              repeat' (first | rfl | refine env_cons ?_ ?_ | refine st_cons ?_ ?_ ?_ ?_ | refine int_eq ?_ | refine bool_eq ?_ | refine rsl_eq ?_ | refine osl_eq ?_ | refine sl_eq ?_ ?_ ?_ | refine ptr_eq ?_ ?_ ?_ | refine agg_eq ?_ | refine es_cons ?_ ?_ | refine row_cons ?_ ?_)
              all_goals (first | (simp; done) | omega | (simp; omega))
            case hstore =>
              repeat' (first | rfl | refine env_cons ?_ ?_ | refine st_cons ?_ ?_ ?_ ?_ | refine int_eq ?_ | refine bool_eq ?_ | refine rsl_eq ?_ | refine osl_eq ?_ | refine sl_eq ?_ ?_ ?_ | refine ptr_eq ?_ ?_ ?_ | refine agg_eq ?_ | refine es_cons ?_ ?_ | refine row_cons ?_ ?_)
              all_goals (rw [hds])
            case hst =>
              omega
            case hm => omega
        · intro hb
          try simp only [hB, decide_eq_true_eq, decide_eq_false_iff_not] at hb
          have hkn : k = n := by omega
          subst hkn
          refine AW.keep [10] [25, 33] ?_
          try simp only [go_sem, reduceIte, reduceCtorEq, zA, zM, zE, zL, zD, zS, zP, zB, zI, zR]
          refine AW.exit ?_
          rw [← hQl1]
          refine hK10 _ _ _ ?_; clear hK10
          refine AW.seq fun K23 hK23 => ?_
          refine AW.regionK 0 (fun _ => none) [4, 5] [25, 33] ?_
          simp only [go_sem, reduceIte, reduceCtorEq, zA, zM, zE, zL, zD, zS, zP, zB, zI, zR, bools_len, ints_len]
          repeat with_reducible refine cj ?_ ?_
          all_goals try first | omega
          refine hK23 _ _ _ ?_; clear hK23
          refine AW.ret ?_
          rw [← hQr]
          simp only [go_sem, reduceIte, reduceCtorEq, zA, zM, zE, zL, zD, zS, zP, zB, zI, zR, bools_len, ints_len]
          exact Wk.refl _
end Go.Proofs.X

namespace Go.Proofs.X
open Go.AM Go
set_option maxRecDepth 100000
set_option maxHeartbeats 4000000
end Go.Proofs.X

/- The reference's words about linear extensions. -/
namespace Go.AM
def eaOk (n : Nat) (d : List Bool) (i : Int) : Bool := decide (0 ≤ i) && decide (i < n) && !d.getD i.toNat false
def eachGo (n : Nat) : List Bool → List Int → Bool
  | _, [] => true
  | d, i :: l => eaOk n d i && eachGo n (d.set i.toNat true) l
def eachB (n : Nat) (l : List Int) : Bool := decide (l.length = n) && eachGo n (List.replicate n false) l
theorem eachGo_app (n : Nat) : ∀ (l m : List Int) (d : List Bool), eachGo n d (l ++ m) = (eachGo n d l && eachGo n (exD d l) m)
  | [], m, d => by simp [eachGo, exD]
  | i :: l, m, d => by
    show (eaOk n d i && eachGo n (d.set i.toNat true) (l ++ m)) = ((eaOk n d i && eachGo n (d.set i.toNat true) l) && eachGo n (exD (d.set i.toNat true) l) m)
    rw [eachGo_app n l m, Bool.and_assoc]
structure IsEach (n : Nat) (l : List Int) : Prop where
  len : l.length = n
  rng : ∀ m, m < n → 0 ≤ l.getD m 0 ∧ l.getD m 0 < (n : Int)
  new : ∀ m, m < n → (dAt n l m).getD (l.getD m 0).toNat false = false
theorem eachGo_at {n : Nat} {d : List Bool} {l : List Int} (h : eachGo n d l = true) {m : Nat} (hm : m < l.length) : eaOk n (exD d (l.take m)) (l.getD m 0) = true := by
  have h1 := eachGo_app n (l.take m) (l.drop m) d
  rw [List.take_append_drop, h] at h1
  have h2 : eachGo n (exD d (l.take m)) (l.drop m) = true := by
    cases e : eachGo n (exD d (l.take m)) (l.drop m) with
    | true => rfl
    | false => rw [e] at h1; simp at h1
  rw [List.drop_eq_getElem_cons hm] at h2
  unfold eachGo at h2
  simp only [Bool.and_eq_true] at h2
  have : l.getD m 0 = l[m] := by simp [List.getD_eq_getElem?_getD, List.getElem?_eq_getElem hm]
  rw [this]; exact h2.1
theorem eachB_iff {n : Nat} {l : List Int} : eachB n l = true ↔ IsEach n l := by
  constructor
  · intro h
    unfold eachB at h
    simp only [Bool.and_eq_true, decide_eq_true_eq] at h
    have key := fun m (hm : m < n) => eachGo_at h.2 (m := m) (by omega)
    unfold eaOk at key
    simp only [Bool.and_eq_true, decide_eq_true_eq, Bool.not_eq_true'] at key
    exact ⟨h.1, fun m hm => (key m hm).1, fun m hm => (key m hm).2⟩
  · intro h
    unfold eachB
    simp only [Bool.and_eq_true, decide_eq_true_eq]
    refine ⟨h.len, ?_⟩
    have : ∀ m, m ≤ n → eachGo n (List.replicate n false) (l.take m) = true := by
      intro m
      induction m with
      | zero => intro _; simp [eachGo]
      | succ m ih =>
        intro hm
        rw [List.take_add_one, List.getElem?_eq_getElem (by rw [h.len]; omega), Option.toList_some, eachGo_app, ih (by omega), Bool.true_and]
        have h1 := h.rng m (by omega)
        have h2 := h.new m (by omega)
        have e : l[m]'(by rw [h.len]; omega) = l.getD m 0 := by simp [List.getD_eq_getElem?_getD, List.getElem?_eq_getElem (show m < l.length by rw [h.len]; omega)]
        rw [e]
        unfold dAt at h2
        simp only [eachGo, eaOk, h1.1, h1.2, h2, decide_true, Bool.and_self, Bool.not_false]
    have := this n (Nat.le_refl _)
    rwa [List.take_of_length_le (by rw [h.len]; exact Nat.le_refl _)] at this
/-- What is marked was in the list. -/
theorem dAt_mem {n : Nat} {l : List Int} (hr : ∀ m, m < n → 0 ≤ l.getD m 0 ∧ l.getD m 0 < (n : Int)) (hl : l.length = n) {i : Nat} (hi : i < n) : ∀ m, m ≤ n → ((dAt n l m).getD i false = true ↔ ∃ k, k < m ∧ l.getD k 0 = (i : Nat))
  | 0, _ => by simp [dAt, exD, List.getD_eq_getElem?_getD, List.getElem?_replicate]; split <;> simp
  | m + 1, hm => by
    have ih := dAt_mem hr hl hi m (by omega)
    have h1 := hr m (by omega)
    rw [dAt_succ (by omega), getD_setB]
    by_cases e : (l.getD m 0).toNat = i
    · rw [if_pos ⟨e, by rw [dAt_len]; omega⟩]
      exact ⟨fun _ => ⟨m, by omega, by omega⟩, fun _ => rfl⟩
    · rw [if_neg (fun h => e h.1), ih]
      constructor
      · rintro ⟨k, h2, h3⟩; exact ⟨k, by omega, h3⟩
      · rintro ⟨k, h2, h3⟩
        rcases Nat.lt_succ_iff_lt_or_eq.1 h2 with h4 | h4
        · exact ⟨k, h4, h3⟩
        · subst h4; omega
theorem IsEach.cnt {n : Nat} {l : List Int} (h : IsEach n l) : ∀ m, m ≤ n → cntT (dAt n l m) = m
  | 0, _ => by simp [dAt, exD, cntT_rep]
  | m + 1, hm => by
    have h1 := h.rng m (by omega)
    rw [dAt_succ (by rw [h.len]; omega), cntT_set (by rw [dAt_len]; omega) (h.new m (by omega)), h.cnt m (by omega)]
theorem IsEach.has {n : Nat} {l : List Int} (h : IsEach n l) {i : Nat} (hi : i < n) : ∃ k, k < n ∧ l.getD k 0 = (i : Nat) := by
  have := all_true (d := dAt n l n) (by rw [h.cnt n (Nat.le_refl _), dAt_len])
  rw [dAt_len] at this
  refine (dAt_mem h.rng h.len hi n (Nat.le_refl _)).1 ?_
  rw [this]; simp [List.getD_eq_getElem?_getD, hi]
theorem IsEach.inj {n : Nat} {l : List Int} (h : IsEach n l) {a b : Nat} (ha : a < b) (hb : b < n) : l.getD a 0 ≠ l.getD b 0 := by
  intro e
  have h1 := h.rng b hb
  have h2 := h.new b hb
  have h3 := (dAt_mem h.rng h.len (i := (l.getD b 0).toNat) (by omega) b (by omega)).2 ⟨a, ha, by omega⟩
  rw [h2] at h3; cases h3
theorem IsExt.each {n : Nat} {bel : List (List Int)} {l : List Int} (h : IsExt n bel l) : IsEach n l := ⟨h.len, h.rng, fun m hm => freeL_not (h.free m hm)⟩
/-- No later element is below an earlier one. -/
def noLess (t : List (List Bool)) (l : List Int) (j i : Nat) : Bool := !atT t (l.getD j 0).toNat (l.getD i 0).toNat
theorem ext_iff {n : Nat} {t : List (List Bool)} (hp : IsPo n t) {l : List Int} : extB n (belL n t) l = true ↔ eachB n l = true ∧ ∀ j, j < n → ∀ i, i < j → noLess t l j i = true := by
  rw [extB_iff, eachB_iff]
  constructor
  · intro h
    refine ⟨h.each, fun j hj i hi => ?_⟩
    have h1 := h.rng i (by omega)
    have h2 := h.rng j hj
    unfold noLess
    cases ha : atT t (l.getD j 0).toNat (l.getD i 0).toNat with
    | false => rfl
    | true =>
      have h3 := ((freeL_iff (by omega)).1 (h.free i (by omega))).2 _ (by omega) ha
      obtain ⟨k, h4, h5⟩ := (dAt_mem h.rng h.len (by omega) i (by omega)).1 h3
      exact absurd (show l.getD k 0 = l.getD j 0 by omega) (h.each.inj (a := k) (b := j) (by omega) hj)
  · rintro ⟨h, hno⟩
    refine ⟨h.len, h.rng, fun m hm => ?_⟩
    have h1 := h.rng m hm
    refine (freeL_iff (by omega)).2 ⟨h.new m hm, fun j hj ha => ?_⟩
    obtain ⟨k, h2, h3⟩ := h.has hj
    refine (dAt_mem h.rng h.len hj m (by omega)).2 ⟨k, ?_, h3⟩
    apply Classical.byContradiction
    intro hk
    rcases Nat.eq_or_lt_of_le (Nat.le_of_not_lt hk) with e | e
    · subst e
      rw [h3, Int.toNat_natCast] at ha
      rw [hp.irr j hj] at ha; cases ha
    · have h4 := hno k h2 m e
      unfold noLess at h4
      rw [h3, Int.toNat_natCast, ha] at h4; cases h4
end Go.AM

namespace Go.Proofs.X
open Go.AM Go
set_option maxRecDepth 100000
set_option maxHeartbeats 4000000
end Go.Proofs.X

namespace Go.Proofs.X
open Go.AM Go
set_option maxRecDepth 100000
set_option maxHeartbeats 4000000
end Go.Proofs.X

namespace Go.Proofs.X
open Go.AM Go
set_option maxRecDepth 100000
set_option maxHeartbeats 4000000
end Go.Proofs.X

namespace Go.Proofs.X
open Go.AM Go
set_option maxRecDepth 100000
set_option maxHeartbeats 4000000
theorem row_f (w : Int) : Reads Tryd.prog 39 true [.int .u64 w] (.agg [.int .i64 3, .rsl 1 (words [w])]) := by
  refine Reads.bodyF (rs := [.cell 2 47]) Tryd.func39 rfl Tryd.ntmps39 rfl (by simp) ?_
  generalize hQr : retQ _ _ _ = Qr
  refine AW.seq fun K1 hK1 => ?_
  refine AW.regionK 0 (fun _ => none) [0, 2] [2] ?_
  simp only [go_sem, reduceIte, reduceCtorEq, zA, zM, zE, zL, zD, zS, zP, zB, zI, zR]
  repeat with_reducible refine cj ?_ ?_
  all_goals try first | omega
  refine hK1 _ _ _ ?_; clear hK1
  refine AW.seq fun K2 hK2 => ?_
  refine AW.regionK 0 (fun _ => none) [2] [2, 4] ?_
  simp only [go_sem, reduceIte, reduceCtorEq, zA, zM, zE, zL, zD, zS, zP, zB, zI, zR]
  repeat with_reducible refine cj ?_ ?_
  all_goals try first | omega
  refine hK2 _ _ _ ?_; clear hK2
  refine AW.ret ?_
  rw [← hQr]
  simp only [go_sem, reduceIte, reduceCtorEq, zA, zM, zE, zL, zD, zS, zP, zB, zI, zR]
  exact Wk.refl _
def t3 : List (List Bool) := [[false, false, false], [false, false, false], [true, false, false]]
theorem t3_sq : Sq 3 t3 := ⟨rfl, by decide⟩
theorem t3_po : poB 3 t3 = true := by decide +kernel
theorem t3_least : leastL 3 t3 = [1, 2, 0] := by decide +kernel
theorem t3_cnt : cntL (belL 3 t3) 3 3 ≤ 5000 := by decide +kernel
theorem t3_cE : cE (belL 3 t3) 3 3 (List.replicate 3 false) = 3 := by decide +kernel
theorem t3_all : allW 3 t3 = 3 := by rw [allW_eq, t3_cE]; rfl
theorem t3_next : nextK (belL 3 t3) 3 [1, 2, 0] 3 = some [2, 0, 1] := by decide +kernel
theorem t3_x1 : extB 3 (belL 3 t3) [1, 2, 0] = true := by decide +kernel
theorem t3_x2 : extB 3 (belL 3 t3) [2, 1, 0] = true := by decide +kernel
theorem t3_rank : rankC (belL 3 t3) 3 [2, 1, 0] 3 = 2 := by decide +kernel
theorem t3_tab : tabR t3 = [[.int .i64 3, .rsl 1 (words [0])], [.int .i64 3, .rsl 1 (words [0])], [.int .i64 3, .rsl 1 (words [1])]] := by
  have h0 : setW [false, false, false] 3 = [0] := by decide +kernel
  have h1 : setW [true, false, false] 3 = [1] := by decide +kernel
  simp [tabR, t3, rowB, h0, h1]
theorem awake_r : Reads Tryd.prog 11 false [] (.bool true) := by
  have hr0 := row_f 0
  have hr1 := row_f 1
  have h1 := least_g 3 t3 t3_sq (by decide) t3_po
  have h2 := count_u 3 t3 t3_sq (by decide) t3_po t3_cnt (by rw [t3_all]; decide)
  have h3 := next_f 3 t3 t3_sq (by decide) t3_po [1, 2, 0] t3_x1
  have h4 := Reads.flat (rank_u 3 t3 t3_sq (by decide) t3_po t3_cnt (by rw [t3_all]; decide) [2, 1, 0] t3_x2) rfl
  have h5 := Reads.flat (eqi_refl [1, 2, 0] (by decide)) rfl
  have h6 := Reads.flat (eqi_refl [2, 0, 1] (by decide)) rfl
  rw [t3_least] at h1
  rw [t3_all] at h2
  rw [t3_next] at h3
  rw [t3_rank] at h4
  unfold relB nextV at *
  rw [t3_tab] at h1 h2 h3 h4
  simp only [ints, words, List.map_cons, List.map_nil] at *
  refine Reads.body (rs := [.tmp 0]) Tryd.func11 rfl Tryd.ntmps11 rfl (by simp) ?_
  generalize hQr : retQ _ _ _ = Qr
  refine AW.seq fun K1 hK1 => ?_
  refine AW.regionK 0 (fun _ => none) [] [1] ?_
  simp only [go_sem, reduceIte, reduceCtorEq, zA, zM, zE, zL, zD, zS, zP, zB, zI, zR]
  repeat with_reducible refine cj ?_ ?_
  all_goals try first | omega
  refine hK1 _ _ _ ?_; clear hK1
  refine AW.seq fun K2 hK2 => ?_
  refine AW.regionK 0 (fun ii => if ii = 0 then some (.reads true (.agg [.int .i64 3, .rsl 1 [[.int .u64 0]]])) else if ii = 1 then some (.reads true (.agg [.int .i64 3, .rsl 1 [[.int .u64 0]]])) else if ii = 2 then some (.reads true (.agg [.int .i64 3, .rsl 1 [[.int .u64 1]]])) else none) [1] [1, 13] ?_
  simp only [go_sem, reduceIte, reduceCtorEq, zA, zM, zE, zL, zD, zS, zP, zB, zI, zR]
  repeat with_reducible refine cj ?_ ?_
  all_goals try first | (first | exact hr0 | exact hr1) | omega | exact ent (by kernel_rfl)
  refine hK2 _ _ _ ?_; clear hK2
  refine AW.frzCellK [13] 5 1 0 0 ?_
  simp only [go_sem, reduceIte, zE]
  refine ⟨rfl, by decide, by decide, by decide, ?_⟩
  refine AW.keep [1] [1] ?_
  simp only [go_sem, reduceIte, zE]
  refine AW.seq fun K3 hK3 => ?_
  refine AW.regionK 0 (fun ii => if ii = 1 then some (.reads false (.tup [.rsl 1 [[.int .i64 1], [.int .i64 2], [.int .i64 0]], .int .i64 0])) else none) [1, 2, 3] [1, 13] ?_
  simp only [go_sem, reduceIte, reduceCtorEq, zA, zM, zE, zL, zD, zS, zP, zB, zI, zR]
  repeat with_reducible refine cj ?_ ?_
  all_goals try first | (exact h1) | omega | exact ent (by kernel_rfl)
  refine hK3 _ _ _ ?_; clear hK3
  refine AW.seq fun K4 hK4 => ?_
  refine AW.regionK 0 (fun ii => if ii = 1 then some (.reads false (.tup [.int .i64 3, .int .i64 0])) else none) [1, 2, 3, 4, 5] [1, 13] ?_
  simp only [go_sem, reduceIte, reduceCtorEq, zA, zM, zE, zL, zD, zS, zP, zB, zI, zR]
  repeat with_reducible refine cj ?_ ?_
  all_goals try first | (exact h2) | omega | exact ent (by kernel_rfl)
  refine hK4 _ _ _ ?_; clear hK4
  refine AW.seq fun K5 hK5 => ?_
  refine AW.regionK 0 (fun ii => if ii = 2 then some (.reads true (.tup [.rsl 1 [[.int .i64 2], [.int .i64 0], [.int .i64 1]], .int .i64 0])) else none) [1, 2, 3, 4, 5, 6, 7] [1, 13] ?_
  simp only [go_sem, reduceIte, reduceCtorEq, zA, zM, zE, zL, zD, zS, zP, zB, zI, zR]
  repeat with_reducible refine cj ?_ ?_
  all_goals try first | (exact h3) | omega | exact ent (by kernel_rfl)
  refine hK5 _ _ _ ?_; clear hK5
  refine AW.seq fun K6 hK6 => ?_
  refine AW.regionK 0 (fun ii => if ii = 2 then some (.reads true (.tup [.int .i64 ((2 : Nat) : Int), .int .i64 0])) else none) [2, 3, 4, 5, 6, 7, 8, 9] [1] ?_
  simp only [go_sem, reduceIte, reduceCtorEq, zA, zM, zE, zL, zD, zS, zP, zB, zI, zR]
  repeat with_reducible refine cj ?_ ?_
  all_goals try first | (exact h4) | omega | exact ent (by kernel_rfl)
  refine hK6 _ _ _ ?_; clear hK6
  refine AW.seq fun K7 hK7 => ?_
  refine AW.regionK 0 (fun ii => if ii = 2 then some (.reads true (.bool true)) else if ii = 18 then some (.reads true (.bool true)) else none) [0] [1] ?_
  simp only [go_sem, reduceIte, reduceCtorEq, zA, zM, zE, zL, zD, zS, zP, zB, zI, zR]
  repeat with_reducible refine cj ?_ ?_
  all_goals try first | (first | exact h5 | exact h6 | exact fun _ => h6) | (intros; (repeat' apply And.intro) <;> first | assumption | (first | exact h5 | exact h6 | exact fun _ => h6)) | omega | exact ent (by kernel_rfl) | (intro hgd; exact absurd hgd (by decide)) | rfl | (simp only [go_sem, reduceIte, reduceCtorEq, zA, zM, zE, zL, zD, zS, zP, zB, zI, zR]; done) | (intro _hgd; simp_all [go_sem]; done)
  refine hK7 _ _ _ ?_; clear hK7
  refine AW.ret ?_
  rw [← hQr]
  simp only [go_sem, reduceIte, reduceCtorEq, zA, zM, zE, zL, zD, zS, zP, zB, zI, zR]
  exact Wk.of_eq (by simp)
end Go.Proofs.X

namespace Go.Proofs.X
open Go.AM Go
set_option maxRecDepth 100000
set_option maxHeartbeats 4000000
end Go.Proofs.X

/- The reference's way to count: from an ideal upwards, with the ways to each one. -/
namespace Go.AM
structure RStE where
  nx : List (List Bool)
  sm : List Int
  bg : Bool
def capM (v : Int) : Int := if 1125899906842624 < v then 1125899906842625 else v
def rNew (st : RStE) (y : List Bool) : RStE := if y ∈ st.nx then st else ⟨st.nx ++ [y], st.sm ++ [0], st.bg⟩
def rPut (st : RStE) (a : Nat) (w : Int) : RStE := ⟨st.nx, st.sm.set a (capM (st.sm.getD a 0 + w)), st.bg || decide (1125899906842624 < st.sm.getD a 0 + w)⟩
def rAdd (w : Int) (st : RStE) (y : List Bool) : RStE := rPut (rNew st y) ((rNew st y).nx.idxOf y) w
def rS (bel : List (List Int)) (S : List Bool) (w : Int) (m : Nat) (st : RStE) : RStE := fr (freeL bel S) (fun st x => rAdd w st (S.set x true)) m st
def rFold (bel : List (List Int)) (n : Nat) (L : List (List Bool × Int)) (st : RStE) : RStE := L.foldl (fun st p => rS bel p.1 p.2 n st) st
structure ROk (st : RStE) : Prop where
  len : st.nx.length = st.sm.length
  rng : ∀ v ∈ st.sm, 0 ≤ v ∧ v ≤ 1125899906842625
  cap : st.bg = false → ∀ v ∈ st.sm, v ≤ 1125899906842624
theorem ROk.new {st : RStE} (h : ROk st) (y : List Bool) : ROk (rNew st y) := by
  unfold rNew
  split
  · exact h
  · refine ⟨by simp [h.len], fun v hv => ?_, fun hb v hv => ?_⟩
    · rcases List.mem_append.1 hv with e | e
      · exact h.rng v e
      · rw [List.mem_singleton.1 e]; exact ⟨by decide, by decide⟩
    · rcases List.mem_append.1 hv with e | e
      · exact h.cap hb v e
      · rw [List.mem_singleton.1 e]; decide
theorem ROk.getD {st : RStE} (h : ROk st) (a : Nat) : 0 ≤ st.sm.getD a 0 ∧ st.sm.getD a 0 ≤ 1125899906842625 := by
  by_cases ha : a < st.sm.length
  · rw [List.getD_eq_getElem?_getD, List.getElem?_eq_getElem ha]
    exact h.rng _ (List.getElem_mem ha)
  · rw [List.getD_eq_getElem?_getD, List.getElem?_eq_none (by omega)]
    exact ⟨by decide, by decide⟩
theorem ROk.put {st : RStE} (h : ROk st) (a : Nat) {w : Int} (hw : 0 ≤ w) : ROk (rPut st a w) := by
  refine ⟨by simp [rPut, h.len], fun v hv => ?_, fun hb v hv => ?_⟩
  · rcases List.mem_or_eq_of_mem_set hv with e | e
    · exact h.rng v e
    · have := h.getD a
      rw [e]; unfold capM; split <;> omega
  · simp only [rPut, Bool.or_eq_false_iff, decide_eq_false_iff_not] at hb
    rcases List.mem_or_eq_of_mem_set hv with e | e
    · exact h.cap hb.1 v e
    · rw [e]; unfold capM; rw [if_neg hb.2]; omega
theorem ROk.add {st : RStE} (h : ROk st) (y : List Bool) {w : Int} (hw : 0 ≤ w) : ROk (rAdd w st y) := (h.new y).put _ hw
theorem ROk.s {bel : List (List Int)} {S : List Bool} {w : Int} (hw : 0 ≤ w) : ∀ (m : Nat) {st : RStE}, ROk st → ROk (rS bel S w m st)
  | 0, _, h => h
  | m + 1, st, h => by
    have ih := ROk.s (bel := bel) (S := S) hw m h
    unfold rS at *
    cases hf : freeL bel S m with
    | true => rw [fr_succ _ hf]; exact ih.add _ hw
    | false => rw [fr_miss _ hf]; exact ih
theorem ROk.fold {bel : List (List Int)} {n : Nat} : ∀ {L : List (List Bool × Int)} {st : RStE}, (∀ p ∈ L, 0 ≤ p.2) → ROk st → ROk (rFold bel n L st)
  | [], _, _, h => h
  | p :: L, st, hL, h => by
    have := ROk.fold (bel := bel) (n := n) (L := L) (fun q hq => hL q (List.mem_cons_of_mem _ hq)) (h.s (bel := bel) (S := p.1) (hL p List.mem_cons_self) n)
    exact this
/-! ### What the sums say. -/
end Go.AM

/- The reference's count is the number of ways. -/
namespace Go.AM
theorem ROk.empty (b : Bool) : ROk ⟨[], [], b⟩ := ⟨rfl, fun v hv => (by cases hv), fun _ v hv => (by cases hv)⟩
end Go.AM

namespace Go.Proofs.X
open Go.AM Go
set_option maxRecDepth 100000
set_option maxHeartbeats 8000000
@[go_sem] theorem vwc_rowsR (s : Store) (d : Nat) (t : List (List Bool)) : (rowsR t).map (fun cs => cs.map (vwc s d)) = rowsR t := by simp [rowsR, vwc_rsl]
end Go.Proofs.X

namespace Go.Proofs.X
open Go.AM Go
set_option maxRecDepth 100000
set_option maxHeartbeats 4000000
end Go.Proofs.X

/- Each rank is the rank of an extension. -/
namespace Go.AM
theorem getD_left {l : List Int} {x : Int} {q : Nat} (h : q < l.length) : (l ++ [x]).getD q 0 = l.getD q 0 := by
  rw [List.getD_eq_getElem?_getD, List.getElem?_append_left h, ← List.getD_eq_getElem?_getD]
theorem getD_last {l : List Int} {x : Int} : (l ++ [x]).getD l.length 0 = x := by simp [List.getD_eq_getElem?_getD]
theorem dAt_left {n : Nat} {l : List Int} {x : Int} {q : Nat} (h : q ≤ l.length) : dAt n (l ++ [x]) q = dAt n l q := by
  unfold dAt; rw [List.take_append_of_le_length h]
theorem rankC_left {bel : List (List Int)} {n : Nat} {l : List Int} {x : Int} : ∀ q, q ≤ l.length → rankC bel n (l ++ [x]) q = rankC bel n l q
  | 0, _ => rfl
  | q + 1, h => by
    show rankC bel n (l ++ [x]) q + _ = rankC bel n l q + _
    rw [rankC_left q (by omega), dAt_left (by omega), getD_left (by omega)]
structure IsPre (n : Nat) (bel : List (List Int)) (l : List Int) : Prop where
  le : l.length ≤ n
  rng : ∀ m, m < l.length → 0 ≤ l.getD m 0 ∧ l.getD m 0 < (n : Int)
  free : ∀ m, m < l.length → freeL bel (dAt n l m) (l.getD m 0).toNat = true
theorem IsPre.snoc {n : Nat} {bel : List (List Int)} {l : List Int} (h : IsPre n bel l) {x : Nat} (hl : l.length < n) (hx : x < n) (hf : freeL bel (dAt n l l.length) x = true) : IsPre n bel (l ++ [((x : Nat) : Int)]) := by
  refine ⟨by simp; omega, fun m hm => ?_, fun m hm => ?_⟩
  · simp only [List.length_append, List.length_cons, List.length_nil] at hm
    by_cases e : m < l.length
    · rw [getD_left e]; exact h.rng m e
    · rw [show m = l.length by omega, getD_last]; omega
  · simp only [List.length_append, List.length_cons, List.length_nil] at hm
    by_cases e : m < l.length
    · rw [getD_left e, dAt_left (by omega)]; exact h.free m e
    · rw [show m = l.length by omega, getD_last, dAt_left (Nat.le_refl _)]; exact hf
theorem IsPre.ext {n : Nat} {bel : List (List Int)} {l : List Int} (h : IsPre n bel l) (hl : l.length = n) : IsExt n bel l := ⟨hl, fun m hm => h.rng m (by omega), fun m hm => h.free m (by omega)⟩
end Go.AM

namespace Go.Proofs.X
open Go.AM Go
set_option maxRecDepth 100000
set_option maxHeartbeats 4000000
end Go.Proofs.X

namespace Go.Proofs.X
open Go.AM Go
set_option maxRecDepth 100000
set_option maxHeartbeats 4000000
end Go.Proofs.X

namespace Go.Proofs.X
open Go.AM Go
set_option maxRecDepth 100000
set_option maxHeartbeats 4000000
end Go.Proofs.X

/- The next extension has the next rank. -/
namespace Go.AM
theorem fin_pre {n : Nat} {t : List (List Bool)} (hp : IsPo n t) {l : List Int} (h : IsPre n (belL n t) l) : ∀ j, l.length + j ≤ n →
    IsPre n (belL n t) (finI (belL n t) n (dAt n l l.length, l) j).2 ∧ (finI (belL n t) n (dAt n l l.length, l) j).1 = dAt n (finI (belL n t) n (dAt n l l.length, l) j).2 (l.length + j) ∧
    (finI (belL n t) n (dAt n l l.length, l) j).2.take l.length = l ∧ rankC (belL n t) n (finI (belL n t) n (dAt n l l.length, l) j).2 (l.length + j) = rankC (belL n t) n l l.length
  | 0, _ => ⟨h, rfl, List.take_of_length_le (Nat.le_refl _), rfl⟩
  | j + 1, hj => by
    obtain ⟨h1, h2, h3, h4⟩ := fin_pre hp h j (by omega)
    have hl := finI_l (belL n t) n (dAt n l l.length, l) j
    have hd := (finI_d (belL n t) n (dAt n l l.length, l) j).trans (dAt_len n l l.length)
    generalize hX : finI (belL n t) n (dAt n l l.length, l) j = X at *
    simp only at hl
    have hcnt : ∀ q, q ≤ X.2.length → cntT (dAt n X.2 q) = q := by
      intro q
      induction q with
      | zero => intro _; simp [dAt, exD, cntT_rep]
      | succ q ih =>
        intro hq
        have hr := h1.rng q (by omega)
        rw [dAt_succ (by omega), cntT_set (by rw [dAt_len]; omega) (freeL_not (h1.free q (by omega))), ih (by omega)]
    have hc := hcnt X.2.length (Nat.le_refl _)
    rw [hl] at hc
    obtain ⟨k, hk1, _, hk2, hk3⟩ := nxt_is (nxt_ge hp hd (by rw [h2, hc]; omega))
    have hmin : ∀ y, y < k → freeL (belL n t) X.1 y = false := fun y hy => by
      rcases nxt_spec (p := freeL (belL n t) X.1) (n := n) (n - 0) 0 rfl with ⟨e, _⟩ | ⟨k2, e, _, _, _, h5⟩
      · omega
      · exact h5 y (Nat.zero_le _) (by omega)
    have hstep : finI (belL n t) n (dAt n l l.length, l) (j + 1) = (X.1.set k true, X.2 ++ [((k : Nat) : Int)]) := by
      show finStep (belL n t) n (finI (belL n t) n (dAt n l l.length, l) j) = _
      rw [hX]; unfold finStep; rw [hk1, Int.toNat_natCast]
    rw [hstep]
    have hfree : freeL (belL n t) (dAt n X.2 X.2.length) k = true := by rw [hl, ← h2]; exact hk3
    refine ⟨h1.snoc (by omega) hk2 hfree, ?_, ?_, ?_⟩
    · show X.1.set k true = _
      rw [show l.length + (j + 1) = X.2.length + 1 by omega, dAt_succ (by simp), dAt_left (Nat.le_refl _), getD_last, Int.toNat_natCast, hl, ← h2]
    · show (X.2 ++ [((k : Nat) : Int)]).take l.length = l
      rw [List.take_append_of_le_length (by omega), h3]
    · show rankC (belL n t) n (X.2 ++ [((k : Nat) : Int)]) (l.length + j + 1) = _
      show rankC (belL n t) n (X.2 ++ [((k : Nat) : Int)]) (l.length + j) + _ = _
      rw [rankC_left _ (by omega), h4, dAt_left (by omega), ← hl, getD_last, Int.toNat_natCast]
      have : sumF (freeL (belL n t) (dAt n X.2 X.2.length)) (fun x => cE (belL n t) n (n - (X.2.length + 1)) ((dAt n X.2 X.2.length).set x true)) k = 0 := by
        rw [sumF_skip (i := 0) _ (Nat.zero_le _) (fun y _ hy => by rw [hl, ← h2]; exact hmin y hy)]; rfl
      rw [this]; rfl
theorem fin_ext {n : Nat} {t : List (List Bool)} (hp : IsPo n t) {l : List Int} (h : IsPre n (belL n t) l) : IsExt n (belL n t) (finI (belL n t) n (dAt n l l.length, l) (n - l.length)).2 ∧ (finI (belL n t) n (dAt n l l.length, l) (n - l.length)).2.take l.length = l ∧ rankC (belL n t) n (finI (belL n t) n (dAt n l l.length, l) (n - l.length)).2 n = rankC (belL n t) n l l.length := by
  have hle := h.le
  obtain ⟨h1, h2, h3, h4⟩ := fin_pre hp h (n - l.length) (by omega)
  have hl := finI_l (belL n t) n (dAt n l l.length, l) (n - l.length)
  rw [show l.length + (n - l.length) = n by omega] at h4
  exact ⟨h1.ext (by rw [hl]; simp only; omega), h3, h4⟩
theorem IsExt.pre {n : Nat} {bel : List (List Int)} {l : List Int} (h : IsExt n bel l) (m : Nat) (hm : m ≤ n) : IsPre n bel (l.take m) := by
  have hl : (l.take m).length = m := by simp [h.len, hm]
  have hg : ∀ q, q < m → (l.take m).getD q 0 = l.getD q 0 := fun q hq => by rw [List.getD_eq_getElem?_getD, List.getElem?_take_of_lt hq, ← List.getD_eq_getElem?_getD]
  have hd : ∀ q, q ≤ m → dAt n (l.take m) q = dAt n l q := fun q hq => by unfold dAt; rw [List.take_take, Nat.min_eq_left hq]
  refine ⟨by omega, fun q hq => ?_, fun q hq => ?_⟩
  · rw [hg q (by omega)]; exact h.rng q (by omega)
  · rw [hg q (by omega), hd q (by omega)]; exact h.free q (by omega)
theorem least_ext {n : Nat} {t : List (List Bool)} (hp : IsPo n t) : IsExt n (belL n t) (finI (belL n t) n (List.replicate n false, []) n).2 ∧ rankC (belL n t) n (finI (belL n t) n (List.replicate n false, []) n).2 n = 0 := by
  have h := fin_ext hp (l := []) ⟨Nat.zero_le _, fun m h => by simp at h, fun m h => by simp at h⟩
  exact ⟨h.1, h.2.2⟩
/-! ### Small orders. -/
end Go.AM

namespace Go.Proofs.X
open Go.AM Go
set_option maxRecDepth 100000
set_option maxHeartbeats 4000000
end Go.Proofs.X

/- An order with one more pair. -/
namespace Go.AM
def leT (t : List (List Bool)) (x a : Nat) : Bool := decide (x = a) || atT t x a
def mRow (n : Nat) (t : List (List Bool)) (a b x : Nat) : List Bool := (List.range n).map fun z => atT t x z || (leT t x a && leT t b z)
def mT (n : Nat) (t : List (List Bool)) (a b : Nat) : List (List Bool) := (List.range n).map (mRow n t a b)
theorem mRow_len (n : Nat) (t : List (List Bool)) (a b x : Nat) : (mRow n t a b x).length = n := by simp [mRow]
theorem mRow_get {n : Nat} {t : List (List Bool)} {a b x z : Nat} (hz : z < n) : (mRow n t a b x).getD z false = (atT t x z || (leT t x a && leT t b z)) := by
  simp [mRow, List.getD_eq_getElem?_getD, hz]
theorem mT_row {n : Nat} {t : List (List Bool)} {a b x : Nat} (hx : x < n) : rowT (mT n t a b) x = mRow n t a b x := by
  simp [rowT, mT, List.getD_eq_getElem?_getD, hx]
theorem mT_sq (n : Nat) (t : List (List Bool)) (a b : Nat) : Sq n (mT n t a b) := ⟨by simp [mT], fun r hr => by
  obtain ⟨x, _, rfl⟩ := List.mem_map.1 hr
  exact mRow_len n t a b x⟩
theorem mT_at {n : Nat} {t : List (List Bool)} {a b x z : Nat} (hx : x < n) (hz : z < n) : atT (mT n t a b) x z = (atT t x z || (leT t x a && leT t b z)) := by
  unfold atT; rw [mT_row hx, mRow_get hz]; rfl
theorem mT_take (n : Nat) (t : List (List Bool)) (a b x : Nat) (hx : x < n) : (mT n t a b).take (x + 1) = (mT n t a b).take x ++ [mRow n t a b x] := by
  rw [List.take_add_one]
  simp [mT, hx]
theorem leT_trans {n : Nat} {t : List (List Bool)} (hp : IsPo n t) {x y z : Nat} (hx : x < n) (hy : y < n) (hz : z < n) (h1 : leT t x y = true) (h2 : leT t y z = true) : leT t x z = true := by
  unfold leT at *
  simp only [Bool.or_eq_true, decide_eq_true_eq] at *
  rcases h1 with rfl | h1
  · exact h2
  · rcases h2 with rfl | h2
    · exact .inr h1
    · exact .inr (hp.trans x y z hx hy hz h1 h2)
theorem mT_po {n : Nat} {t : List (List Bool)} (hp : IsPo n t) {a b : Nat} (ha : a < n) (hb : b < n) (hba : leT t b a = false) : IsPo n (mT n t a b) := by
  have hle : ∀ {x y}, atT t x y = true → leT t x y = true := fun h => by unfold leT; rw [h]; simp
  refine ⟨fun x hx => ?_, fun x y z hx hy hz h1 h2 => ?_⟩
  · rw [mT_at hx hx, hp.irr x hx, Bool.false_or]
    cases e : leT t x a && leT t b x with
    | false => rfl
    | true =>
      rw [Bool.and_eq_true] at e
      rw [leT_trans hp hb hx ha e.2 e.1] at hba; cases hba
  · rw [mT_at hx hy] at h1
    rw [mT_at hy hz] at h2
    rw [mT_at hx hz]
    simp only [Bool.or_eq_true, Bool.and_eq_true] at *
    rcases h1 with h1 | ⟨h1, h1'⟩
    · rcases h2 with h2 | ⟨h2, h2'⟩
      · exact .inl (hp.trans x y z hx hy hz h1 h2)
      · exact .inr ⟨leT_trans hp hx hy ha (hle h1) h2, h2'⟩
    · rcases h2 with h2 | ⟨h2, h2'⟩
      · exact .inr ⟨h1, leT_trans hp hb hy hz h1' (hle h2)⟩
      · exfalso
        rw [leT_trans hp hb hy ha h1' h2] at hba; cases hba
theorem mT_ext {n : Nat} {t : List (List Bool)} (hp : IsPo n t) {a b : Nat} (ha : a < n) (hb : b < n) (hba : leT t b a = false) {l : List Int} (h : extB n (belL n (mT n t a b)) l = true) : extB n (belL n t) l = true := by
  obtain ⟨h1, h2⟩ := (ext_iff (mT_po hp ha hb hba)).1 h
  have hE := eachB_iff.1 h1
  refine (ext_iff hp).2 ⟨h1, fun j hj i hi => ?_⟩
  have h3 := h2 j hj i hi
  have r1 := hE.rng j hj
  have r2 := hE.rng i (by omega)
  unfold noLess at *
  rw [mT_at (by omega) (by omega)] at h3
  cases e : atT t (l.getD j 0).toNat (l.getD i 0).toNat with
  | false => rfl
  | true => rw [e] at h3; simp at h3
theorem ix_each {n : Nat} {l : List Int} (hE : IsEach n l) {k : Nat} (hk : k < n) (x : Int) (hx : l.getD k 0 = x) : ixf (fun y => decide (x = y)) l = (k : Nat) := by
  have hl := hE.len
  have hs : l[k]? = some x := by rw [List.getElem?_eq_getElem (by omega)]; rw [List.getD_eq_getElem?_getD, List.getElem?_eq_getElem (by omega)] at hx; simpa using hx
  refine ixf_at hs (by simp) ?_
  rw [List.any_eq_false]
  intro y hy
  obtain ⟨q, hq, rfl⟩ := List.mem_iff_getElem.1 hy
  simp only [List.length_take] at hq
  have := hE.inj (a := q) (b := k) (by omega) hk
  intro h
  rw [decide_eq_true_eq] at h
  refine this ?_
  rw [hx, h, List.getD_eq_getElem?_getD, List.getElem?_eq_getElem (by omega)]
  simp
theorem mT_before {n : Nat} {t : List (List Bool)} (hp : IsPo n t) {a b : Nat} (ha : a < n) (hb : b < n) (hba : leT t b a = false) {l : List Int} (h : extB n (belL n (mT n t a b)) l = true) : ixf (fun y => decide ((a : Int) = y)) l < ixf (fun y => decide ((b : Int) = y)) l := by
  obtain ⟨h1, h2⟩ := (ext_iff (mT_po hp ha hb hba)).1 h
  have hE := eachB_iff.1 h1
  obtain ⟨ka, q1, q2⟩ := hE.has ha
  obtain ⟨kb, q3, q4⟩ := hE.has hb
  rw [ix_each hE q1 _ q2, ix_each hE q3 _ q4]
  rcases Nat.lt_trichotomy ka kb with e | e | e
  · omega
  · exfalso
    subst e
    have hab : a = b := by omega
    unfold leT at hba
    rw [hab] at hba; simp at hba
  · exfalso
    have h3 := h2 ka q1 kb e
    unfold noLess at h3
    rw [q2, q4, Int.toNat_natCast, Int.toNat_natCast, mT_at ha hb] at h3
    simp [leT] at h3
end Go.AM

namespace Go.Proofs.X
open Go.AM Go
set_option maxRecDepth 100000
set_option maxHeartbeats 4000000
theorem clonew_u (l : List Int) (hl : l.length ≤ 100000) (hne : l ≠ []) :
    Upd Tryd.prog 24 [] [.rsl 1 (words l)] (fun k => .sl ⟨0, k, none⟩ 0 l.length none) (fun k => [(0, some ⟨k, k, 1, words l⟩)]) := by
  have hine : words l ≠ [] := by cases l with | nil => exact absurd rfl hne | cons a l => simp [words]
  refine Upd.of_body (rs := [.tmp 2]) Tryd.func24 rfl Tryd.ntmps24 rfl (by simp) ?_
  intro k0 k hk0 hk1
  generalize hQr : retQ _ _ _ = Qr
  refine AW.seq fun K1 hK1 => ?_
  refine AW.regionK 100 (fun _ => none) [0] [] ?_
  simp only [go_sem, reduceIte, reduceCtorEq, zA, zM, zE, zL, zD, zS, zP, zB, zI, zR, words_len]
  repeat with_reducible refine cj ?_ ?_
  all_goals try first | omega
  refine hK1 _ _ _ ?_; clear hK1
  refine AW.seq fun K2 hK2 => ?_
  refine AW.seq fun K3 hK3 => ?_
  refine AW.regionK 100 (fun _ => none) [0, 4] [] ?_
  simp only [go_sem, reduceIte, reduceCtorEq, zA, zM, zE, zL, zD, zS, zP, zB, zI, zR, words_len]
  repeat with_reducible refine cj ?_ ?_
  all_goals try first | (exact hine) | omega
  refine hK3 _ _ _ ?_; clear hK3
  refine AW.cond rfl (by simp only [go_sem, reduceIte, reduceCtorEq, zA, zM, zE, zL, zD, zS, zP, zB, zI, zR]) ?_ ?_
  · intro hb
    try simp only [hB, decide_eq_true_eq, decide_eq_false_iff_not] at hb
    exfalso; simp at hb
  · intro hb
    try simp only [hB, decide_eq_true_eq, decide_eq_false_iff_not] at hb
    refine AW.skip ?_
    refine hK2 _ _ _ ?_; clear hK2
    refine AW.seq fun K4 hK4 => ?_
    refine AW.regionK 100 (fun _ => none) [2] [107] ?_
    simp only [go_sem, reduceIte, reduceCtorEq, zA, zM, zE, zL, zD, zS, zP, zB, zI, zR, words_len]
    repeat with_reducible refine cj ?_ ?_
    all_goals try first | omega | (simp [scP, scalar]; done) | exact scP_words _ | exact scP_ints _ | exact scP_bools _
    refine hK4 _ _ _ ?_; clear hK4
    refine AW.ret ?_
    rw [← hQr]
    simp only [go_sem, reduceIte, reduceCtorEq, zA, zM, zE, zL, zD, zS, zP, zB, zI, zR, words_len]
    refine ⟨[(107, 0, true)], ?_⟩
    simp only [go_sem, reduceIte, zE, renC_words]
theorem first_b (rs : List USet) (hl : longR rs) (i j : Int) (hv2 : Reads Tryd.prog 14 false [relV rs] (.bool false)) : Reads Tryd.prog 6 false [relV rs, .int .u8 i, .int .u8 j] (.bool true) := by
  have ha := awake_r
  have hl1 := hl.1
  unfold relV at *
  refine Reads.body (rs := [.tmp 6]) Tryd.func6 rfl Tryd.ntmps6 rfl (by simp) ?_
  generalize hQr : retQ _ _ _ = Qr
  refine AW.seq fun K1 hK1 => ?_
  refine AW.regionK 0 (fun _ => none) [1, 2, 3] [3] ?_
  simp only [go_sem, reduceIte, reduceCtorEq, zA, zM, zE, zL, zD, zS, zP, zB, zI, zR]
  repeat with_reducible refine cj ?_ ?_
  all_goals try first | omega
  refine hK1 _ _ _ ?_; clear hK1
  refine AW.seq fun K2 hK2 => ?_
  refine AW.seq fun K3 hK3 => ?_
  refine AW.regionK 0 (fun ii => if ii = 0 then some (.reads false (.bool true)) else none) [1, 2, 3, 17] [3] ?_
  simp only [go_sem, reduceIte, reduceCtorEq, zA, zM, zE, zL, zD, zS, zP, zB, zI, zR]
  repeat with_reducible refine cj ?_ ?_
  all_goals try first | (exact ha) | omega | exact ent (by kernel_rfl)
  refine hK3 _ _ _ ?_; clear hK3
  refine AW.cond rfl (by simp only [go_sem, reduceIte, reduceCtorEq, zA, zM, zE, zL, zD, zS, zP, zB, zI, zR]) ?_ ?_
  · intro hb
    try simp only [hB, decide_eq_true_eq, decide_eq_false_iff_not] at hb
    exfalso; simp at hb
  · intro hb
    try simp only [hB, decide_eq_true_eq, decide_eq_false_iff_not] at hb
    refine AW.skip ?_
    refine hK2 _ _ _ ?_; clear hK2
    refine AW.seq fun K4 hK4 => ?_
    refine AW.regionK 0 (fun _ => none) [1, 2, 3, 7] [3] ?_
    simp only [go_sem, reduceIte, reduceCtorEq, zA, zM, zE, zL, zD, zS, zP, zB, zI, zR]
    repeat with_reducible refine cj ?_ ?_
    all_goals try first | omega
    refine hK4 _ _ _ ?_; clear hK4
    refine AW.seq fun K5 hK5 => ?_
    refine AW.seq fun K6 hK6 => ?_
    refine AW.regionK 0 (fun ii => if ii = 8 then some (.reads false (.bool false)) else none) [1, 2, 3, 7, 31] [3] ?_
    simp only [go_sem, reduceIte, reduceCtorEq, zA, zM, zE, zL, zD, zS, zP, zB, zI, zR]
    repeat with_reducible refine cj ?_ ?_
    all_goals try first | ((intros; (repeat' apply And.intro) <;> first | assumption | exact hv2)) | (intros; (repeat' apply And.intro) <;> first | assumption | ((intros; (repeat' apply And.intro) <;> first | assumption | exact hv2))) | omega | exact ent (by kernel_rfl) | (intro hgd; exact absurd hgd (by decide)) | rfl | (simp only [go_sem, reduceIte, reduceCtorEq, zA, zM, zE, zL, zD, zS, zP, zB, zI, zR]; done) | (intro _hgd; simp_all [go_sem]; done)
    refine hK6 _ _ _ ?_; clear hK6
    refine AW.cond rfl (by simp only [go_sem, reduceIte, reduceCtorEq, zA, zM, zE, zL, zD, zS, zP, zB, zI, zR]) ?_ ?_
    · intro hb
      try simp only [hB, decide_eq_true_eq, decide_eq_false_iff_not] at hb
      refine AW.seq fun K7 hK7 => ?_
      refine AW.regionK 0 (fun _ => none) [6] [] ?_
      simp only [go_sem, reduceIte, reduceCtorEq, zA, zM, zE, zL, zD, zS, zP, zB, zI, zR]
      repeat with_reducible refine cj ?_ ?_
      all_goals try first | omega
      refine hK7 _ _ _ ?_; clear hK7
      refine AW.ret ?_
      rw [← hQr]
      simp only [go_sem, reduceIte, reduceCtorEq, zA, zM, zE, zL, zD, zS, zP, zB, zI, zR]
      exact Wk.refl _
    · intro hb
      try simp only [hB, decide_eq_true_eq, decide_eq_false_iff_not] at hb
      exfalso; simp at hb
theorem first_g (n : Nat) (t : List (List Bool)) (hs : Sq n t) (hn : n ≤ 512) (hp : poB n t = true) (i j : Int) (hi0 : 0 ≤ i) (hi1 : i ≤ 255) (hj0 : 0 ≤ j) (hj1 : j ≤ 255) : Reads Tryd.prog 6 false [relB t, .int .u8 i, .int .u8 j] (.bool true) := by
  have ha := awake_r
  have hlt : (tabR t).length = n := by rw [tabR_len, hs.len]
  have hv2 := rpvalid_g n t hs hn
  rw [hp] at hv2
  have hpo := (poB_iff hs).1 hp
  have hls := fun x y hx hy => less_t n t hs hn hp x y hx hy
  have hgr := fun i hi => tabR_get (t := t) (i := i) hi
  have hlen := hs.len
  have hwi : IntKind.i64.wrap i = i := by simp [IntKind.wrap, IntKind.signed, IntKind.bits]; omega
  have hwj : IntKind.i64.wrap j = j := by simp [IntKind.wrap, IntKind.signed, IntKind.bits]; omega
  obtain ⟨a, hae⟩ : ∃ a, a = i.toNat % n := ⟨_, rfl⟩
  obtain ⟨b, hbe⟩ : ∃ b, b = j.toNat % n := ⟨_, rfl⟩
  have hta : i.tmod (n : Int) = (a : Nat) := by rw [Int.tmod_eq_emod_of_nonneg hi0, hae, Int.natCast_emod, Int.toNat_of_nonneg hi0]
  have htb : j.tmod (n : Int) = (b : Nat) := by rw [Int.tmod_eq_emod_of_nonneg hj0, hbe, Int.natCast_emod, Int.toNat_of_nonneg hj0]
  have ms := mT_sq n t a b
  have mtk := mT_take n t a b
  have mrl := mRow_len n t a b
  have mrg := fun x z (hz : z < n) => mRow_get (t := t) (a := a) (b := b) (x := x) hz
  have mpo := fun ha hb h => mT_po hpo (a := a) (b := b) ha hb h
  have mlen : (mT n t a b).length = n := by simp [mT]
  have hL1 := fun hq => least_g n (mT n t a b) ms hn hq
  have hle := fun hq : IsPo n (mT n t a b) => (least_ext hq).1
  have hI1 := fun (l : List Int) (hl : l.length ≤ 512) => is_g n (mT n t a b) ms hn l (by omega)
  have hI2 := fun (l : List Int) (hl : l.length ≤ 512) => is_g n t hs hn l (by omega)
  have hext := fun ha hb h l hx => mT_ext hpo (a := a) (b := b) ha hb h (l := l) hx
  have hbef := fun ha hb h l hx => mT_before hpo (a := a) (b := b) ha hb h (l := l) hx
  have hix := fun (l : List Int) (hl : l.length ≤ 512) x => index_r l x (by omega)
  unfold relB rowB at *
  refine Reads.body (rs := [.tmp 6]) Tryd.func6 rfl Tryd.ntmps6 rfl (by simp) ?_
  generalize hQr : retQ _ _ _ = Qr
  refine AW.seq fun K1 hK1 => ?_
  refine AW.regionK 0 (fun _ => none) [1, 2, 3] [3] ?_
  simp only [go_sem, reduceIte, reduceCtorEq, zA, zM, zE, zL, zD, zS, zP, zB, zI, zR, hlt]
  repeat with_reducible refine cj ?_ ?_
  all_goals try first | omega
  refine hK1 _ _ _ ?_; clear hK1
  refine AW.seq fun K2 hK2 => ?_
  refine AW.seq fun K3 hK3 => ?_
  refine AW.regionK 0 (fun ii => if ii = 0 then some (.reads false (.bool true)) else none) [1, 2, 3, 17] [3] ?_
  simp only [go_sem, reduceIte, reduceCtorEq, zA, zM, zE, zL, zD, zS, zP, zB, zI, zR, hlt]
  repeat with_reducible refine cj ?_ ?_
  all_goals try first | (exact ha) | omega | exact ent (by kernel_rfl)
  refine hK3 _ _ _ ?_; clear hK3
  refine AW.cond rfl (by simp only [go_sem, reduceIte, reduceCtorEq, zA, zM, zE, zL, zD, zS, zP, zB, zI, zR]) ?_ ?_
  · intro hb
    try simp only [hB, decide_eq_true_eq, decide_eq_false_iff_not] at hb
    exfalso; simp at hb
  · intro hb
    try simp only [hB, decide_eq_true_eq, decide_eq_false_iff_not] at hb
    refine AW.skip ?_
    refine hK2 _ _ _ ?_; clear hK2
    refine AW.seq fun K4 hK4 => ?_
    refine AW.regionK 0 (fun _ => none) [1, 2, 3, 7] [3] ?_
    simp only [go_sem, reduceIte, reduceCtorEq, zA, zM, zE, zL, zD, zS, zP, zB, zI, zR, hlt]
    repeat with_reducible refine cj ?_ ?_
    all_goals try first | omega
    refine hK4 _ _ _ ?_; clear hK4
    refine AW.seq fun K5 hK5 => ?_
    refine AW.seq fun K6 hK6 => ?_
    refine AW.regionK 0 (fun ii => if ii = 8 then some (.reads false (.bool true)) else none) [1, 2, 3, 7, 31] [3] ?_
    simp only [go_sem, reduceIte, reduceCtorEq, zA, zM, zE, zL, zD, zS, zP, zB, zI, zR, hlt]
    repeat with_reducible refine cj ?_ ?_
    all_goals try first | ((intros; (repeat' apply And.intro) <;> first | assumption | exact hv2)) | (intros; (repeat' apply And.intro) <;> first | assumption | ((intros; (repeat' apply And.intro) <;> first | assumption | exact hv2))) | omega | exact ent (by kernel_rfl) | (intro hgd; exact absurd hgd (by decide)) | rfl | (simp only [go_sem, reduceIte, reduceCtorEq, zA, zM, zE, zL, zD, zS, zP, zB, zI, zR, hlt]; done) | (intro _hgd; simp_all [go_sem]; done)
    refine hK6 _ _ _ ?_; clear hK6
    refine AW.cond rfl (by simp only [go_sem, reduceIte, reduceCtorEq, zA, zM, zE, zL, zD, zS, zP, zB, zI, zR]) ?_ ?_
    · intro hb
      try simp only [hB, decide_eq_true_eq, decide_eq_false_iff_not] at hb
      refine AW.seq fun K7 hK7 => ?_
      refine AW.regionK 0 (fun _ => none) [6] [] ?_
      simp only [go_sem, reduceIte, reduceCtorEq, zA, zM, zE, zL, zD, zS, zP, zB, zI, zR, hlt]
      repeat with_reducible refine cj ?_ ?_
      all_goals try first | omega
      refine hK7 _ _ _ ?_; clear hK7
      refine AW.ret ?_
      rw [← hQr]
      simp only [go_sem, reduceIte, reduceCtorEq, zA, zM, zE, zL, zD, zS, zP, zB, zI, zR, hlt]
      exact Wk.refl _
    · intro hb
      try simp only [hB, decide_eq_true_eq, decide_eq_false_iff_not] at hb
      have hn2 : 2 ≤ n ∧ n ≤ 12 := by
        constructor <;> (apply Classical.byContradiction; intro hne; revert hb; simp; omega)
      have hbn2 := hb
      clear hb
      have haN : a < n := by rw [hae]; exact Nat.mod_lt _ (by omega)
      have hbN : b < n := by rw [hbe]; exact Nat.mod_lt _ (by omega)
      have hab := hls a b haN hbN
      have hba := hls b a hbN haN
      refine AW.skip ?_
      refine hK5 _ _ _ ?_; clear hK5
      refine AW.seq fun K8 hK8 => ?_
      refine AW.regionD mixed 0 (fun _ => none) [3, 7, 8, 9] [3] ?_
      simp only [go_sem, reduceIte, reduceCtorEq, zA, zM, zE, zL, zD, zS, zP, zB, zI, zR, hlt, hwi, hwj, hta, htb]
      repeat with_reducible refine cj ?_ ?_
      all_goals try first | omega | exact chk (by kernel_rfl)
      refine hK8 _ _ _ ?_; clear hK8
      refine AW.seq fun K9 hK9 => ?_
      refine AW.seq fun K10 hK10 => ?_
      refine AW.regionK 0 (fun ii => if ii = 7 then some (.reads false (.bool (atT t a b))) else if ii = 13 then some (.reads false (.bool (atT t b a))) else none) [3, 7, 8, 9, 54] [3] ?_
      simp only [go_sem, reduceIte, reduceCtorEq, zA, zM, zE, zL, zD, zS, zP, zB, zI, zR, hlt]
      repeat with_reducible refine cj ?_ ?_
      all_goals try first | ((intros; (repeat' apply And.intro) <;> first | assumption | exact hab | exact hba)) | (intros; (repeat' apply And.intro) <;> first | assumption | ((intros; (repeat' apply And.intro) <;> first | assumption | exact hab | exact hba))) | omega | exact ent (by kernel_rfl) | (intro hgd; exact absurd hgd (by decide)) | rfl | (simp only [go_sem, reduceIte, reduceCtorEq, zA, zM, zE, zL, zD, zS, zP, zB, zI, zR, hlt]; done) | (intro _hgd; simp_all [go_sem]; done)
      refine hK10 _ _ _ ?_; clear hK10
      refine AW.cond rfl (by simp only [go_sem, reduceIte, reduceCtorEq, zA, zM, zE, zL, zD, zS, zP, zB, zI, zR]) ?_ ?_
      · intro hb
        try simp only [hB, decide_eq_true_eq, decide_eq_false_iff_not] at hb
        refine AW.seq fun K11 hK11 => ?_
        refine AW.regionK 0 (fun _ => none) [6] [] ?_
        simp only [go_sem, reduceIte, reduceCtorEq, zA, zM, zE, zL, zD, zS, zP, zB, zI, zR, hlt]
        repeat with_reducible refine cj ?_ ?_
        all_goals try first | omega
        refine hK11 _ _ _ ?_; clear hK11
        refine AW.ret ?_
        rw [← hQr]
        simp only [go_sem, reduceIte, reduceCtorEq, zA, zM, zE, zL, zD, zS, zP, zB, zI, zR, hlt]
        exact Wk.refl _
      · intro hb
        try simp only [hB, decide_eq_true_eq, decide_eq_false_iff_not] at hb
        have hb3 : a ≠ b ∧ atT t a b = false ∧ atT t b a = false := by
          refine ⟨fun e => ?_, ?_, ?_⟩
          · revert hb; simp [e]
          · revert hb; cases atT t a b <;> simp
          · revert hb; cases atT t b a <;> simp
        have hbl : leT t b a = false := by unfold leT; rw [hb3.2.2, decide_eq_false (fun e => hb3.1 e.symm)]; rfl
        have hmpo := mpo haN hbN hbl
        have hmB := (poB_iff ms).2 hmpo
        have hL := hL1 hmB
        have hE := hle hmpo
        have hEx := extB_iff.2 hE
        unfold leastL at hL
        generalize (finI (belL n (mT n t a b)) n (List.replicate n false, []) n).2 = L at *
        have hLl := hE.len
        have hi1 := hI1 L (by omega)
        have hi2 := hI2 L (by omega)
        have hx2 := hext haN hbN hbl L hEx
        have hbf := hbef haN hbN hbl L hEx
        rw [hmB, hEx] at hi1
        rw [hp, hx2] at hi2
        have hixa := hix L (by omega) (a : Nat)
        have hixb := hix L (by omega) (b : Nat)
        clear hE
        have hwn := wordsN_rng (n := (n : Int)) (by omega)
        generalize hM : mT n t a b = M at *
        refine AW.skip ?_
        refine hK9 _ _ _ ?_; clear hK9
        refine AW.seq fun K12 hK12 => ?_
        refine AW.regionK 0 (fun _ => none) [3, 7, 8, 9, 10] [3, 10] ?_
        simp only [go_sem, reduceIte, reduceCtorEq, zA, zM, zE, zL, zD, zS, zP, zB, zI, zR, hlt]
        repeat with_reducible refine cj ?_ ?_
        all_goals try first | omega
        refine hK12 _ _ _ ?_; clear hK12
        refine AW.seq fun K13 hK13 => ?_
        refine AW.seq fun K14 hK14 => ?_
        refine AW.regionK 0 (fun _ => none) [3, 7, 8, 9, 10, 56, 57] [3, 10] ?_
        simp only [go_sem, reduceIte, reduceCtorEq, zA, zM, zE, zL, zD, zS, zP, zB, zI, zR, hlt]
        repeat with_reducible refine cj ?_ ?_
        all_goals try first | omega
        refine hK14 _ _ _ ?_; clear hK14
        refine AW.block ?_
        refine AW.nilCellK 10 0 0 200 2 ?_
        simp only [go_sem, reduceIte, zE]
        repeat refine cj ?_ ?_
        all_goals first | decide | skip
        refine AW.keep [3, 7, 8, 9, 10, 56, 57] [3, 10, 200] ?_
        simp only [go_sem, reduceIte, zE]
        refine AW.loopE (fun mm ee ss kk => ∃ (x g3 v3 g10 v10 g v : Nat), n - x = mm ∧ ee = [(3, .ptr ⟨3, g3, none⟩ 0 0), (7, .int .i64 n), (8, .int .i64 (a : Nat)), (9, .int .i64 (b : Nat)), (10, .ptr ⟨10, g10, none⟩ 0 0), (56, .int .i64 n), (57, .int .i64 (x : Nat))] ∧ ss = [(3, some ⟨g3, v3, 1, [[.rsl 2 (tabR t)]]⟩), (10, some ⟨g10, v10, 1, [[.sl ⟨200, g, none⟩ 0 x none]]⟩), (200, some ⟨g, v, 2, tabO (M.take x)⟩)] ∧ (x ≤ n)) ?_ ?_
        · refine ⟨_, 0, ?_, ?_, ?_, ?_, ?_, ?_, rfl, ?henv, ?hstore, ?hst⟩
          case henv =>
            repeat' (first | rfl | refine env_cons ?_ ?_ | refine st_cons ?_ ?_ ?_ ?_ | refine int_eq ?_ | refine bool_eq ?_ | refine rsl_eq ?_ | refine osl_eq ?_ | refine sl_eq ?_ ?_ ?_ | refine ptr_eq ?_ ?_ ?_ | refine agg_eq ?_ | refine es_cons ?_ ?_ | refine row_cons ?_ ?_)
            all_goals (first | (simp; done) | omega | (simp; omega))
          case hstore =>
            repeat' (first | rfl | refine env_cons ?_ ?_ | refine st_cons ?_ ?_ ?_ ?_ | refine int_eq ?_ | refine bool_eq ?_ | refine rsl_eq ?_ | refine osl_eq ?_ | refine sl_eq ?_ ?_ ?_ | refine ptr_eq ?_ ?_ ?_ | refine agg_eq ?_ | refine es_cons ?_ ?_ | refine row_cons ?_ ?_)
            all_goals (first | (simp; done) | omega | (simp; omega))
          case hst =>
            first | trivial | omega | (simp; done) | (simp; omega)
        rintro mm ee ss kk ⟨x, g3, v3, g10, v10, g, v, rfl, rfl, rfl, hI⟩
        generalize hQl1 : thenQ _ _ = Ql1
        refine AW.seq fun K15 hK15 => ?_
        refine AW.regionK 0 (fun _ => none) [3, 7, 8, 9, 10, 56, 57, 58] [3, 10, 200] ?_
        simp only [go_sem, reduceIte, reduceCtorEq, zA, zM, zE, zL, zD, zS, zP, zB, zI, zR, hlt]
        repeat with_reducible refine cj ?_ ?_
        all_goals try first | omega
        refine hK15 _ _ _ ?_; clear hK15
        refine AW.seq fun K16 hK16 => ?_
        refine AW.cond rfl (by simp only [go_sem, reduceIte, reduceCtorEq, zA, zM, zE, zL, zD, zS, zP, zB, zI, zR]) ?_ ?_
        · intro hb
          try simp only [hB, decide_eq_true_eq, decide_eq_false_iff_not] at hb
          have hxn : x < n := by omega
          have hgx := hgr x (by omega)
          have hrl := hs.rowLen hxn
          have hmk := mtk x hxn
          have hwl := setW_len' (rowT t x)
          have hne : setW (rowT t x) (rowT t x).length ≠ [] := fun e => by rw [e, hrl] at hwl; simp only [List.length_nil] at hwl; omega
          have hcl := clonew_u (setW (rowT t x) (rowT t x).length) (by rw [hwl, hrl]; omega) hne
          have hlx := hls x a hxn haN
          have hly := fun y hy => hls b y hbN hy
          have htl : (M.take x).length = x := by simp; omega
          have htk : (tabO (M.take x)).take x = tabO (M.take x) := List.take_of_length_le (by rw [tabO_len]; omega)
          have hatx : ∀ y, atT t x y = (rowT t x).getD y false := fun _ => rfl
          have hrx := mrl x
          have hrgx := mrg x
          generalize hR : mRow n t a b x = R at *
          generalize hr0 : rowT t x = r0 at *
          rw [hrl] at hwl hcl
          rw [hwl] at hcl
          have hap : tabO (M.take x) ++ [[.int .i64 n, .osl 1 (words (setW R n))]] = tabO (M.take x ++ [R]) := by simp [tabO, rowO, hrx]
          have hgl : ∀ c : List AV, (tabO (M.take x) ++ [c]).getD x [] = c := fun c => by rw [List.getD_eq_getElem?_getD, List.getElem?_append_right (by rw [tabO_len]; omega), tabO_len, htl]; simp
          have hsl : ∀ c c' : List AV, (tabO (M.take x) ++ [c]).set x c' = tabO (M.take x) ++ [c'] := fun c c' => by rw [List.set_append_right _ _ (by rw [tabO_len]; omega), tabO_len, htl]; simp
          have hll : ∀ c : List AV, (tabO (M.take x) ++ [c]).length = x + 1 := fun c => by simp [tabO_len]; omega
          refine AW.skip ?_
          refine hK16 _ _ _ ?_; clear hK16
          refine AW.seq fun K17 hK17 => ?_
          refine AW.block ?_
          refine AW.seq fun K18 hK18 => ?_
          refine AW.regionK 0 (fun _ => none) [3, 7, 8, 9, 10, 11, 56, 57] [3, 10, 200] ?_
          simp only [go_sem, reduceIte, reduceCtorEq, zA, zM, zE, zL, zD, zS, zP, zB, zI, zR, hlt]
          repeat with_reducible refine cj ?_ ?_
          all_goals try first | omega
          refine hK18 _ _ _ ?_; clear hK18
          refine AW.seq fun K19 hK19 => ?_
          refine AW.regionK 0 (fun ii => if ii = 7 then some (.upd [] (fun k => [(0, some ⟨k, k, 1, words (setW r0 n)⟩)]) (fun k => .sl ⟨0, k, none⟩ 0 (wordsN n).toNat none)) else none) [3, 7, 8, 9, 10, 11, 12, 56, 57] [3, 10, 12, 67, 200] ?_
          simp only [go_sem, reduceIte, reduceCtorEq, zA, zM, zE, zL, zD, zS, zP, zB, zI, zR, hlt, hgx, hrl]
          repeat with_reducible refine cj ?_ ?_
          all_goals try first | (exact hcl) | omega | exact ent (by kernel_rfl)
          refine hK19 _ _ _ ?_; clear hK19
          refine AW.seq fun K20 hK20 => ?_
          refine AW.seq fun K21 hK21 => ?_
          refine AW.regionK 0 (fun _ => none) [3, 7, 8, 9, 10, 11, 12, 56, 57, 69, 70] [3, 10, 12, 67, 200] ?_
          simp only [go_sem, reduceIte, reduceCtorEq, zA, zM, zE, zL, zD, zS, zP, zB, zI, zR, hlt]
          repeat with_reducible refine cj ?_ ?_
          all_goals try first | omega
          refine hK21 _ _ _ ?_; clear hK21
          refine AW.block ?_
          refine AW.loopE (fun mm ee ss kk => ∃ (y g3 v3 g10 v10 g12 v12 g67 v67 g v : Nat), n - y = mm ∧ ee = [(3, .ptr ⟨3, g3, none⟩ 0 0), (7, .int .i64 n), (8, .int .i64 (a : Nat)), (9, .int .i64 (b : Nat)), (10, .ptr ⟨10, g10, none⟩ 0 0), (11, .int .i64 (x : Nat)), (12, .ptr ⟨12, g12, none⟩ 0 0), (56, .int .i64 n), (57, .int .i64 (x : Nat)), (69, .int .i64 n), (70, .int .i64 (y : Nat))] ∧ ss = [(3, some ⟨g3, v3, 1, [[.rsl 2 (tabR t)]]⟩), (10, some ⟨g10, v10, 1, [[.sl ⟨200, g, none⟩ 0 x none]]⟩), (12, some ⟨g12, v12, 2, [[.int .i64 n, .sl ⟨67, g67, none⟩ 0 (wordsN n).toNat none]]⟩), (67, some ⟨g67, v67, 1, words (setW (R.take y ++ r0.drop y) n)⟩), (200, some ⟨g, v, 2, tabO (M.take x)⟩)] ∧ (y ≤ n)) ?_ ?_
          · refine ⟨_, 0, ?_, ?_, ?_, ?_, ?_, ?_, ?_, ?_, ?_, ?_, rfl, ?henv, ?hstore, ?hst⟩
            case henv =>
              repeat' (first | rfl | refine env_cons ?_ ?_ | refine st_cons ?_ ?_ ?_ ?_ | refine int_eq ?_ | refine bool_eq ?_ | refine rsl_eq ?_ | refine osl_eq ?_ | refine sl_eq ?_ ?_ ?_ | refine ptr_eq ?_ ?_ ?_ | refine agg_eq ?_ | refine es_cons ?_ ?_ | refine row_cons ?_ ?_)
              all_goals (first | (simp; done) | omega | (simp; omega))
            case hstore =>
              repeat' (first | rfl | refine env_cons ?_ ?_ | refine st_cons ?_ ?_ ?_ ?_ | refine int_eq ?_ | refine bool_eq ?_ | refine rsl_eq ?_ | refine osl_eq ?_ | refine sl_eq ?_ ?_ ?_ | refine ptr_eq ?_ ?_ ?_ | refine agg_eq ?_ | refine es_cons ?_ ?_ | refine row_cons ?_ ?_)
              all_goals (first | (simp; done) | omega | (simp; omega))
            case hst =>
              first | trivial | omega | (simp; done) | (simp; omega)
          rintro mm ee ss kk ⟨y, g3, v3, g10, v10, g12, v12, g67, v67, g, v, rfl, rfl, rfl, hI⟩
          generalize hQl2 : thenQ _ _ = Ql2
          have hml : (R.take y ++ r0.drop y).length = n := by simp; omega
          have hwm := setW_len' (R.take y ++ r0.drop y)
          rw [hml] at hwm
          refine AW.seq fun K22 hK22 => ?_
          refine AW.regionK 0 (fun _ => none) [3, 7, 8, 9, 10, 11, 12, 56, 57, 69, 70, 71] [3, 10, 12, 67, 200] ?_
          simp only [go_sem, reduceIte, reduceCtorEq, zA, zM, zE, zL, zD, zS, zP, zB, zI, zR, hlt]
          repeat with_reducible refine cj ?_ ?_
          all_goals try first | omega
          refine hK22 _ _ _ ?_; clear hK22
          refine AW.seq fun K23 hK23 => ?_
          refine AW.cond rfl (by simp only [go_sem, reduceIte, reduceCtorEq, zA, zM, zE, zL, zD, zS, zP, zB, zI, zR]) ?_ ?_
          · intro hb
            try simp only [hB, decide_eq_true_eq, decide_eq_false_iff_not] at hb
            have hyn : y < n := by omega
            have hlyy := hly y hyn
            have hms := mix_set (d := r0) (d2 := R) (j := y) (by omega) (by omega)
            have hRy := hrgx y hyn
            rw [hRy, hatx] at hms
            have hmy : (R.take y ++ r0.drop y).getD y false = r0.getD y false := by
              rw [List.getD_eq_getElem?_getD, List.getElem?_append_right (by simp; omega), List.getElem?_drop, List.getD_eq_getElem?_getD]
              congr 2
              simp; omega
            have hsb := setBit_setW (R.take y ++ r0.drop y) (i := y) (by omega)
            unfold setBit at hsb
            rw [hml] at hsb
            have hd := div64_rng (i := (y : Int)) (n := n) (by omega) (by omega)
            have hgw := words_getD (l := setW (R.take y ++ r0.drop y) n) (i := ((y : Int).tdiv 64).toNat) (by omega)
            have hwr : IntKind.u64.wrap ((y : Int).tmod 64) = (y : Int).tmod 64 := by simp [IntKind.wrap, IntKind.signed, IntKind.bits]; omega
            refine AW.skip ?_
            refine hK23 _ _ _ ?_; clear hK23
            refine AW.seq fun K24 hK24 => ?_
            refine AW.block ?_
            refine AW.seq fun K25 hK25 => ?_
            refine AW.regionK 0 (fun _ => none) [3, 7, 8, 9, 10, 11, 12, 13, 56, 57, 69, 70] [3, 10, 12, 67, 200] ?_
            simp only [go_sem, reduceIte, reduceCtorEq, zA, zM, zE, zL, zD, zS, zP, zB, zI, zR, hlt]
            repeat with_reducible refine cj ?_ ?_
            all_goals try first | omega
            refine hK25 _ _ _ ?_; clear hK25
            refine AW.seq fun K26 hK26 => ?_
            refine AW.regionK 0 (fun ii => if ii = 7 then some (.reads false (.bool (atT t x a))) else if ii = 17 then some (.reads false (.bool (atT t b y))) else none) [3, 7, 8, 9, 10, 11, 12, 13, 56, 57, 69, 70, 92] [3, 10, 12, 67, 200] ?_
            simp only [go_sem, reduceIte, reduceCtorEq, zA, zM, zE, zL, zD, zS, zP, zB, zI, zR, hlt]
            repeat with_reducible refine cj ?_ ?_
            all_goals try first | ((intros; (repeat' apply And.intro) <;> first | assumption | exact hlx | exact hlyy)) | (intros; (repeat' apply And.intro) <;> first | assumption | ((intros; (repeat' apply And.intro) <;> first | assumption | exact hlx | exact hlyy))) | omega | exact ent (by kernel_rfl) | (intro hgd; exact absurd hgd (by decide)) | rfl | (simp only [go_sem, reduceIte, reduceCtorEq, zA, zM, zE, zL, zD, zS, zP, zB, zI, zR, hlt]; done) | (intro _hgd; simp_all [go_sem]; done)
            refine hK26 _ _ _ ?_; clear hK26
            have hJ6 : ∀ (v67 : Nat) (kk : Nat), K24 [(3, .ptr ⟨3, g3, none⟩ 0 0), (7, .int .i64 n), (8, .int .i64 (a : Nat)), (9, .int .i64 (b : Nat)), (10, .ptr ⟨10, g10, none⟩ 0 0), (11, .int .i64 (x : Nat)), (12, .ptr ⟨12, g12, none⟩ 0 0), (56, .int .i64 n), (57, .int .i64 (x : Nat)), (69, .int .i64 n), (70, .int .i64 (y : Nat))] [(3, some ⟨g3, v3, 1, [[.rsl 2 (tabR t)]]⟩), (10, some ⟨g10, v10, 1, [[.sl ⟨200, g, none⟩ 0 x none]]⟩), (12, some ⟨g12, v12, 2, [[.int .i64 n, .sl ⟨67, g67, none⟩ 0 (wordsN n).toNat none]]⟩), (67, some ⟨g67, v67, 1, words (setW (R.take (y + 1) ++ r0.drop (y + 1)) n)⟩), (200, some ⟨g, v, 2, tabO (M.take x)⟩)] kk := by
              intro v67 kk
              refine hK24 _ _ _ ?_; clear hK24
              refine AW.regionK 0 (fun _ => none) [3, 7, 8, 9, 10, 11, 12, 56, 57, 69, 70] [3, 10, 12, 67, 200] ?_
              simp only [go_sem, reduceIte, reduceCtorEq, zA, zM, zE, zL, zD, zS, zP, zB, zI, zR, hlt]
              repeat with_reducible refine cj ?_ ?_
              all_goals try first | omega
              rw [← hQl2]
              change Exists _
              refine ⟨_, ?hm, y + 1, ?_, ?_, ?_, ?_, ?_, ?_, ?_, ?_, ?_, ?_, rfl, ?henv, ?hstore, ?hst⟩
              case henv =>
                repeat' (first | rfl | refine env_cons ?_ ?_ | refine st_cons ?_ ?_ ?_ ?_ | refine int_eq ?_ | refine bool_eq ?_ | refine rsl_eq ?_ | refine osl_eq ?_ | refine sl_eq ?_ ?_ ?_ | refine ptr_eq ?_ ?_ ?_ | refine agg_eq ?_ | refine es_cons ?_ ?_ | refine row_cons ?_ ?_)
                all_goals (first | (simp; done) | omega | (simp; omega))
              case hstore =>
                repeat' (first | rfl | refine env_cons ?_ ?_ | refine st_cons ?_ ?_ ?_ ?_ | refine int_eq ?_ | refine bool_eq ?_ | refine rsl_eq ?_ | refine osl_eq ?_ | refine sl_eq ?_ ?_ ?_ | refine ptr_eq ?_ ?_ ?_ | refine agg_eq ?_ | refine es_cons ?_ ?_ | refine row_cons ?_ ?_)
                all_goals (first | (simp; done) | omega | (simp; omega))
              case hst =>
                omega
              case hm => omega
            refine AW.cond rfl (by simp only [go_sem, reduceIte, reduceCtorEq, zA, zM, zE, zL, zD, zS, zP, zB, zI, zR]) ?_ ?_
            · intro hb
              try simp only [hB, decide_eq_true_eq, decide_eq_false_iff_not] at hb
              have hc : (leT t x a && leT t b y) = true := by
                unfold leT
                simp only [Bool.and_eq_true, Bool.or_eq_true, decide_eq_true_eq]
                exact ⟨hb.1.imp (fun h => by omega) id, hb.2.imp (fun h => by omega) id⟩
              rw [hc, Bool.or_true] at hms
              rw [hms] at hsb
              refine AW.regionD mixed 0 (fun _ => none) [3, 7, 8, 9, 10, 11, 12, 56, 57, 69, 70] [3, 10, 12, 67, 200] ?_
              simp only [go_sem, reduceIte, reduceCtorEq, zA, zM, zE, zL, zD, zS, zP, zB, zI, zR, hlt, hgw, hwm, hsb, hwr]
              repeat with_reducible refine cj ?_ ?_
              all_goals try first | omega | exact chk (by kernel_rfl)
              exact hJ6 _ _
            · intro hb
              try simp only [hB, decide_eq_true_eq, decide_eq_false_iff_not] at hb
              have hc : (leT t x a && leT t b y) = false := by
                unfold leT
                rcases hb with ⟨h1, h2⟩ | ⟨h1, h2⟩
                · rw [h2, show decide (x = a) = false from decide_eq_false (fun e => h1 (by omega))]; rfl
                · rw [h2, show decide (b = y) = false from decide_eq_false (fun e => h1 (by omega))]; simp
              rw [hc, Bool.or_false, ← hmy, set_same] at hms
              rw [← hms] at hJ6
              refine AW.keep [3, 7, 8, 9, 10, 11, 12, 56, 57, 69, 70] [3, 10, 12, 67, 200] ?_
              try simp only [go_sem, reduceIte, reduceCtorEq, zA, zM, zE, zL, zD, zS, zP, zB, zI, zR]
              refine AW.skip ?_
              exact hJ6 _ _
          · intro hb
            try simp only [hB, decide_eq_true_eq, decide_eq_false_iff_not] at hb
            have hyn : y = n := by omega
            have hme : R.take y ++ r0.drop y = R := by rw [hyn, List.take_of_length_le (by omega), List.drop_eq_nil_of_le (by omega), List.append_nil]
            rw [hme] at hwm ⊢
            have hll2 : (setW R n).length = (wordsN n).toNat := hwm
            refine AW.keep [3, 7, 8, 9, 10, 12, 56, 57] [3, 10, 12, 67, 200] ?_
            try simp only [go_sem, reduceIte, reduceCtorEq, zA, zM, zE, zL, zD, zS, zP, zB, zI, zR]
            refine AW.exit ?_
            rw [← hQl2]
            refine hK20 _ _ _ ?_; clear hK20
            refine AW.regionK 0 (fun _ => none) [3, 7, 8, 9, 10, 56, 57] [3, 10, 67, 200] ?_
            simp only [go_sem, reduceIte, reduceCtorEq, zA, zM, zE, zL, zD, zS, zP, zB, zI, zR, hlt, htk, tabO_len, htl]
            repeat with_reducible refine cj ?_ ?_
            all_goals try first | omega | (simp [scP, scalar]; done) | exact scP_words _ | exact scP_ints _ | exact scP_bools _
            refine hK17 _ _ _ ?_; clear hK17
            refine AW.adoptK 200 x 1 67 ?_
            simp only [go_sem, reduceIte, zE, hgl, hsl, hll]
            refine ⟨hll2, noOsl_words _, ?_⟩
            refine AW.keep [3, 7, 8, 9, 10, 56, 57] [3, 10, 200] ?_
            simp only [go_sem, reduceIte, zE, hap]
            refine AW.regionK 0 (fun _ => none) [3, 7, 8, 9, 10, 56, 57] [3, 10, 200] ?_
            simp only [go_sem, reduceIte, reduceCtorEq, zA, zM, zE, zL, zD, zS, zP, zB, zI, zR, hlt]
            repeat with_reducible refine cj ?_ ?_
            all_goals try first | omega
            rw [← hQl1]
            change Exists _
            refine ⟨_, ?hm, x + 1, ?_, ?_, ?_, ?_, ?_, ?_, rfl, ?henv, ?hstore, ?hst⟩
            case henv =>
              repeat' (first | rfl | refine env_cons ?_ ?_ | refine st_cons ?_ ?_ ?_ ?_ | refine int_eq ?_ | refine bool_eq ?_ | refine rsl_eq ?_ | refine osl_eq ?_ | refine sl_eq ?_ ?_ ?_ | refine ptr_eq ?_ ?_ ?_ | refine agg_eq ?_ | refine es_cons ?_ ?_ | refine row_cons ?_ ?_)
              all_goals (first | (simp; done) | omega | (simp; omega))
            case hstore =>
              repeat' (first | rfl | refine env_cons ?_ ?_ | refine st_cons ?_ ?_ ?_ ?_ | refine int_eq ?_ | refine bool_eq ?_ | refine rsl_eq ?_ | refine osl_eq ?_ | refine sl_eq ?_ ?_ ?_ | refine ptr_eq ?_ ?_ ?_ | refine agg_eq ?_ | refine es_cons ?_ ?_ | refine row_cons ?_ ?_)
              all_goals (rw [hmk])
            case hst =>
              omega
            case hm => omega
        · intro hb
          try simp only [hB, decide_eq_true_eq, decide_eq_false_iff_not] at hb
          have hxn : x = n := by omega
          rw [hxn, List.take_of_length_le (by omega : M.length ≤ n)]
          have htM : (tabO M).take n = tabO M := List.take_of_length_le (by rw [tabO_len]; omega)
          refine AW.keep [3, 8, 9, 10] [3, 10, 200] ?_
          try simp only [go_sem, reduceIte, reduceCtorEq, zA, zM, zE, zL, zD, zS, zP, zB, zI, zR]
          refine AW.exit ?_
          rw [← hQl1]
          refine hK13 _ _ _ ?_; clear hK13
          refine AW.seq fun K27 hK27 => ?_
          refine AW.frzCellK [200] 5 10 0 0 ?_
          simp only [go_sem, reduceIte, zE, htM, vwc_tabO]
          refine ⟨rfl, by decide, by decide, by decide, ?_⟩
          refine AW.keep [3, 8, 9, 10] [3, 10] ?_
          simp only [go_sem, reduceIte, zE]
          refine AW.regionK 0 (fun ii => if ii = 1 then some (.reads false (.tup [.rsl 1 (ints L), .int .i64 0])) else none) [3, 8, 9, 10, 14, 15] [3, 10] ?_
          simp only [go_sem, reduceIte, reduceCtorEq, zA, zM, zE, zL, zD, zS, zP, zB, zI, zR, hlt]
          repeat with_reducible refine cj ?_ ?_
          all_goals try first | (exact hL) | omega | exact ent (by kernel_rfl)
          refine hK27 _ _ _ ?_; clear hK27
          refine AW.seq fun K28 hK28 => ?_
          refine AW.regionK 0 (fun ii => if ii = 5 then some (.reads false (.bool true)) else if ii = 10 then some (.reads false (.bool true)) else if ii = 15 then some (.reads false (.int .i64 (ixf (fun y => decide ((a : Int) = y)) L))) else if ii = 18 then some (.reads false (.int .i64 (ixf (fun y => decide ((b : Int) = y)) L))) else none) [6] [] ?_
          simp only [go_sem, reduceIte, reduceCtorEq, zA, zM, zE, zL, zD, zS, zP, zB, zI, zR, hlt]
          repeat with_reducible refine cj ?_ ?_
          all_goals try first | ((intros; (repeat' apply And.intro) <;> first | assumption | exact hi1 | exact hi2 | exact hixa | exact hixb)) | (intros; (repeat' apply And.intro) <;> first | assumption | ((intros; (repeat' apply And.intro) <;> first | assumption | exact hi1 | exact hi2 | exact hixa | exact hixb))) | omega | exact ent (by kernel_rfl) | (intro hgd; exact absurd hgd (by decide)) | rfl | (simp only [go_sem, reduceIte, reduceCtorEq, zA, zM, zE, zL, zD, zS, zP, zB, zI, zR, hlt]; done) | (intro _hgd; simp_all [go_sem]; done)
          refine hK28 _ _ _ ?_; clear hK28
          refine AW.ret ?_
          rw [← hQr]
          simp only [go_sem, reduceIte, reduceCtorEq, zA, zM, zE, zL, zD, zS, zP, zB, zI, zR, hlt]
          exact Wk.of_eq (by simp [hbf])
end Go.Proofs.X

namespace Go.Proofs.X
open Go.AM Go
theorem law_first (rs : List USet) (hl : longR rs) (hok : ∀ x ∈ rs, okW x.W) (i j : Int) (hi0 : 0 ≤ i) (hi1 : i ≤ 255) (hj0 : 0 ≤ j) (hj1 : j ≤ 255) : Reads Tryd.prog 6 false [relV rs, .int .u8 i, .int .u8 j] (.bool true) := by
  rcases rel_cases rs hok with ⟨t, ht, hs, hn, hp⟩ | hb
  · have h := first_g _ t hs hn hp i j hi0 hi1 hj0 hj1
    rw [relB_SB, ← ht] at h
    exact h
  · exact first_b rs hl i j (bad_valid rs hl hok hb).2
end Go.Proofs.X

/- Arguments that are read as data, as pure trees. -/
namespace Go.AM

inductive F2 {α β : Type} (R : α → β → Prop) : List α → List β → Prop
  | nil : F2 R [] []
  | cons {a b l r} (h : R a b) (t : F2 R l r) : F2 R (a :: l) (b :: r)

/-- The shape of a type's cells. -/
def Fit (P : Program) : Nat → TypeId → List AV → Prop
  | 0, _, _ => False
  | f + 1, t, avs => match P.underlying t with
    | some .bool => ∃ b, avs = [.bool b]
    | some (.int k) => ∃ n, avs = [.int k n] ∧ k.min ≤ n ∧ n ≤ k.max
    | some .string => ∃ s, avs = [.str s]
    | some (.slice e) => P.cellsOf e = 0 ∨ ∃ es, avs = [.rsl (P.cellsOf e) es] ∧ es.length ≤ maxLen ∧ ∀ x ∈ es, x.length = P.cellsOf e ∧ Fit P f e x
    | some (.struct fs) => ∃ parts : List (List AV), avs = parts.flatten ∧ F2 (fun (fl : Field) p => p.length = P.cellsOf fl.type ∧ Fit P f fl.type p) fs.toList parts
    | some (.array n e) => ∃ parts : List (List AV), avs = parts.flatten ∧ parts.length = n ∧ ∀ p ∈ parts, p.length = P.cellsOf e ∧ Fit P f e p
    | _ => True

abbrev immW (w : World) : Nat → Prop := immF w fun _ => False
def Match (w : World) (avs : List AV) (cs : List Value) : Prop := avs.length = cs.length ∧ ∀ i, i < avs.length → RelP (immW w) w (avs.getD i .any) (cs.getD i undef)

theorem Match.append {w : World} {a a' : List AV} {c c' : List Value} (h : Match w a c) (h' : Match w a' c') : Match w (a ++ a') (c ++ c') := by
  obtain ⟨h1, h2⟩ := h
  obtain ⟨k1, k2⟩ := h'
  refine ⟨by simp [h1, k1], fun i hi => ?_⟩
  rw [getD_append, getD_append, ← h1]
  by_cases hlt : i < a.length
  · rw [if_pos hlt, if_pos hlt]; exact h2 i hlt
  · rw [if_neg hlt, if_neg hlt]
    exact k2 _ (by simp at hi; omega)
theorem Match.one {w : World} {a : AV} {u : Value} (h : RelP (immW w) w a u) : Match w [a] [u] := ⟨rfl, fun i hi => by
  match i, hi with
  | 0, _ => exact h⟩

theorem mapM_some {α β : Type} {f : α → Option β} : ∀ {l : List α} {r : List β}, l.mapM f = some r → F2 (fun a b => f a = some b) l r
  | [], r, h => by
    simp only [List.mapM_nil, Option.pure_def, Option.some.injEq] at h
    subst h; exact .nil
  | a :: l, r, h => by
    rw [List.mapM_cons] at h
    cases ha : f a with
    | none => simp [ha] at h
    | some b =>
      cases hl : l.mapM f with
      | none => simp [ha, hl] at h
      | some r' =>
        simp [ha, hl] at h
        subst h
        exact .cons ha (mapM_some hl)

theorem range_mapM {β : Type} {f : Nat → Option β} {n : Nat} {r : List β} (h : (List.range n).mapM f = some r) : r.length = n ∧ ∀ i, i < n → ∃ b, r[i]? = some b ∧ f i = some b := by
  have h2 := mapM_some h
  have key : ∀ {l : List Nat} {r : List β}, F2 (fun a b => f a = some b) l r → r.length = l.length ∧ ∀ (i a : Nat), l[i]? = some a → ∃ b, r[i]? = some b ∧ f a = some b := by
    intro l r h
    induction h with
    | nil => exact ⟨rfl, by simp⟩
    | cons h t ih =>
      refine ⟨by simp [ih.1], fun i a ha => ?_⟩
      cases i with
      | zero => simp only [List.getElem?_cons_zero, Option.some.injEq] at ha; subst ha; exact ⟨_, rfl, h⟩
      | succ i => simpa using ih.2 i a (by simpa using ha)
  obtain ⟨k1, k2⟩ := key h2
  refine ⟨by simpa using k1, fun i hi => k2 i i (by simp [hi])⟩

theorem cells?_spec {w : World} {a : Addr} {n : Nat} {cs : List Value} (h : w.cells? 0 a n = some cs) : cs.length = n ∧ ∀ j, j < n → w.cell? (a.add j) = some (cs.getD j undef) := by
  simp only [World.cells?, Nat.zero_le, if_true] at h
  obtain ⟨h1, h2⟩ := range_mapM h
  refine ⟨h1, fun j hj => ?_⟩
  obtain ⟨b, e1, e2⟩ := h2 j hj
  rw [e2, List.getD_eq_getElem?_getD, e1]; rfl

theorem cell?_spot {w : World} {a : Addr} {v : Value} (h : w.cell? a = some v) : a.spot = none ∧ a.block < w.heap.size := by
  unfold World.cell? at h
  split at h
  · rename_i c _ _ hh
    split at h
    · cases h
    · rename_i hs
      exact ⟨by simpa using hs, heap_lt hh⟩
  · cases h

theorem chunks_struct {P : Program} (cs : List Value) : ∀ (fs : List Field) (o : Nat), (∀ (j : Nat) f, fs[j]? = some f → f.offset = o + ((fs.take j).map fun f => P.cellsOf f.type).sum) →
    (fs.map fun f => (cs.drop f.offset).take (P.cellsOf f.type)).flatten = (cs.drop o).take ((fs.map fun f => P.cellsOf f.type).sum)
  | [], o, _ => by simp
  | f :: fs, o, h => by
    have h0 := h 0 f rfl
    simp at h0
    have ih := chunks_struct (P := P) cs fs (o + P.cellsOf f.type) fun j g hj => by
      have := h (j + 1) g (by simpa using hj)
      rw [this]
      simp [Nat.add_assoc]
    simp only [List.map_cons, List.flatten_cons, List.sum_cons, ih, h0]
    rw [List.take_add, List.drop_drop]

theorem chunks_array (cs : List Value) (m : Nat) : ∀ n, ((List.range n).map fun i => (cs.drop (i * m)).take m).flatten = cs.take (n * m)
  | 0 => by simp
  | n + 1 => by
    rw [List.range_succ, List.map_append, List.flatten_append, chunks_array cs m n, Nat.succ_mul, List.take_add]
    simp

theorem match_flatten {α : Type} {w : World} {g : α → List Value} {p : α → List AV → Prop} : ∀ {l : List α} {parts : List (List AV)}, F2 (fun a x => p a x ∧ Match w x (g a)) l parts → Match w parts.flatten (l.map g).flatten
  | _, _, .nil => ⟨rfl, by simp⟩
  | _, _, .cons h t => by
    simp only [List.flatten_cons, List.map_cons]
    exact h.2.append (match_flatten t)

theorem forall2_imp {α β : Type} {R S : α → β → Prop} (h : ∀ a b, R a b → S a b) : ∀ {l : List α} {r : List β}, F2 R l r → F2 S l r
  | _, _, .nil => .nil
  | _, _, .cons h1 t => .cons (h _ _ h1) (forall2_imp h t)
theorem forall2_len {α β : Type} {R : α → β → Prop} : ∀ {l : List α} {r : List β}, F2 R l r → l.length = r.length
  | _, _, .nil => rfl
  | _, _, .cons _ t => by simp [forall2_len t]
theorem forall2_right {α β : Type} {R : α → β → Prop} {Q : β → Prop} (h : ∀ a b, R a b → Q b) : ∀ {l : List α} {r : List β}, F2 R l r → ∀ b ∈ r, Q b
  | _, _, .nil, b, hb => by cases hb
  | _, _, .cons h1 t, b, hb => by
    rcases List.mem_cons.1 hb with rfl | hb
    · exact h _ _ h1
    · exact forall2_right h t b hb

theorem fit_of_trod {H : Type} {enc : TypeId × Value → H} {P : Program} {w : World} (hl : laidOutB P = true) : ∀ (n : Nat) (t : TypeId) (cs : List Value) (x : DataW H × List MemPlace), t < P.types.size →
    DataW.trod enc P w 0 (fun _ => true) true n t cs = some x → ∃ avs, Fit P n t avs ∧ Match w avs cs := by
  intro n
  induction n with
  | zero => intro t cs x _ h; simp [DataW.trod] at h
  | succ n ih =>
    intro t cs x ht h
    have hany : (match P.underlying t with | some .bool | some (.int _) | some .string | some (.slice _) | some (.struct _) | some (.array _ _) => False | _ => True) → ∃ avs, Fit P (n + 1) t avs ∧ Match w avs cs := fun hh => by
      refine ⟨List.replicate cs.length .any, ?_, by simp, fun i hi => ?_⟩
      · unfold Fit
        split <;> simp_all
      · have : (List.replicate cs.length AV.any).getD i .any = .any := by
          simp only [List.getD_eq_getElem?_getD]
          cases h : (List.replicate cs.length AV.any)[i]? with
          | none => rfl
          | some y => simp [List.getElem?_replicate] at h; simp [h.2]
        rw [this]; exact .any _
    by_cases hh : (match P.underlying t with | some .bool | some (.int _) | some .string | some (.slice _) | some (.struct _) | some (.array _ _) => False | _ => True)
    · exact hany hh
    cases hu : P.underlying t with
    | none => exact absurd (by rw [hu]; trivial) hh
    | some d =>
      rw [hu] at hh
      cases d <;> first | exact absurd trivial hh | skip
      case bool =>
        unfold DataW.trod at h
        rw [hu] at h
        rcases cs with _ | ⟨c, _ | ⟨c2, rest⟩⟩ <;> (try cases c) <;> simp at h
        exact ⟨[.bool _], by unfold Fit; rw [hu]; exact ⟨_, rfl⟩, .one (.bool _)⟩
      case int k =>
        unfold DataW.trod at h
        rw [hu] at h
        rcases cs with _ | ⟨c, _ | ⟨c2, rest⟩⟩ <;> (try cases c) <;> simp at h
        rename_i k' m
        obtain ⟨⟨rfl, h1⟩, _⟩ := h
        exact ⟨[.int k' m], by unfold Fit; rw [hu]; exact ⟨_, rfl, by simpa [Lit.wf] using h1⟩, .one (.int _ _)⟩
      case string =>
        unfold DataW.trod at h
        rw [hu] at h
        rcases cs with _ | ⟨c, _ | ⟨c2, rest⟩⟩ <;> (try cases c) <;> simp at h
        exact ⟨[.str _], by unfold Fit; rw [hu]; exact ⟨_, rfl⟩, .one (.str _)⟩
      case slice e =>
        have he := kid_slice hl ht hu
        unfold DataW.trod at h
        rw [hu] at h
        have hbad : ∀ c c2 rest, cs ≠ c :: c2 :: rest := fun c c2 rest e => by subst e; cases c <;> simp at h
        rcases cs with _ | ⟨c, _ | ⟨c2, rest⟩⟩
        · simp at h
        rotate_left
        · exact absurd rfl (hbad _ _ _)
        cases c <;> first | (simp at h; done) | skip
        rename_i a len cap
        cases a with
        | none =>
          rcases len with _ | len <;> rcases cap with _ | cap <;> first | (simp at h; done) | skip
          exact ⟨[.rsl (P.cellsOf e) []], by unfold Fit; rw [hu]; exact .inr ⟨[], rfl, by simp, by simp⟩, .one (.rnil _ _ _)⟩
        | some a =>
          dsimp only at h
          split at h
          · rename_i hb
            cases hm : (List.range len).mapM (fun i => (w.cells? 0 (a.add (i * P.cellsOf e)) (P.cellsOf e)).bind (DataW.trod enc P w 0 (fun _ => true) true n e)) with
            | none => rw [hm] at h; simp at h
            | some elems =>
              obtain ⟨k1, k2⟩ := range_mapM hm
              have k3 : ∀ i, i < len → ∃ avs cs', w.cells? 0 (a.add (i * P.cellsOf e)) (P.cellsOf e) = some cs' ∧ Fit P n e avs ∧ Match w avs cs' := fun i hi => by
                obtain ⟨b, _, e2⟩ := k2 i hi
                cases hc : w.cells? 0 (a.add (i * P.cellsOf e)) (P.cellsOf e) with
                | none => rw [hc] at e2; simp at e2
                | some cs' =>
                  rw [hc] at e2
                  obtain ⟨avs, h1, h2⟩ := ih e cs' b he e2
                  exact ⟨avs, cs', rfl, h1, h2⟩
              classical
              let F : Nat → List AV := fun i => if hi : i < len then Classical.choose (k3 i hi) else []
              let es := (List.range len).map F
              have hlen : es.length = len := by simp [es]
              have hget : ∀ i, i < len → es.getD i [] = F i := fun i hi => by simp [es, List.getD_eq_getElem?_getD, hi]
              have hF : ∀ i, i < len → ∃ cs', w.cells? 0 (a.add (i * P.cellsOf e)) (P.cellsOf e) = some cs' ∧ Fit P n e (F i) ∧ Match w (F i) cs' := fun i hi => by
                have := Classical.choose_spec (k3 i hi)
                simp only [F, dif_pos hi]
                exact this
              have hes : ∀ x ∈ es, x.length = P.cellsOf e ∧ Fit P n e x := fun x hx => by
                simp only [es, List.mem_map, List.mem_range] at hx
                obtain ⟨i, hi, rfl⟩ := hx
                obtain ⟨cs', h1, h2, h3⟩ := hF i hi
                exact ⟨h3.1.trans (cells?_spec h1).1, h2⟩
              rcases Nat.eq_zero_or_pos (P.cellsOf e) with hz | hz
              · exact ⟨[.any], by unfold Fit; rw [hu]; exact .inl hz, .one (.any _)⟩
              refine ⟨[.rsl (P.cellsOf e) es], by unfold Fit; rw [hu]; exact .inr ⟨es, rfl, by rw [hlen]; omega, hes⟩, .one ?_⟩
              rcases Nat.eq_zero_or_pos len with h0 | h0
              · have : es = [] := List.length_eq_zero_iff.1 (by omega)
                rw [this, h0]; exact .rnil _ _ _
              · have hcell : ∀ i j, i < len → j < P.cellsOf e → ∃ v, w.cell? ((a.add (i * P.cellsOf e)).add j) = some v ∧ RelP (immW w) w ((es.getD i []).getD j .any) v := fun i j hi hj => by
                  obtain ⟨cs', h1, h2, h3⟩ := hF i hi
                  obtain ⟨g1, g2⟩ := cells?_spec h1
                  refine ⟨_, g2 j hj, ?_⟩
                  rw [hget i hi]
                  exact h3.2 j (by rw [h3.1, g1]; exact hj)
                obtain ⟨v0, g1, _⟩ := hcell 0 0 h0 hz
                simp only [Nat.zero_mul, Addr.add, if_true] at g1
                obtain ⟨hs, hblk⟩ := cell?_spot g1
                obtain ⟨b, off, sp⟩ := a
                simp only at hs
                subst hs
                have hadd : ∀ i j, ((⟨b, off, none⟩ : Addr).add (i * P.cellsOf e)).add j = ⟨b, off + i * P.cellsOf e + j, none⟩ := fun i j => by
                  simp only [Addr.add]
                  split <;> split <;> simp_all
                rw [← hlen]
                refine .rsl _ es b off cap (fun i j => (w.cell? ⟨b, off + i * P.cellsOf e + j, none⟩).getD undef) (by omega) ⟨hblk, fun h => h⟩ (fun x hx => (hes x hx).1) (fun i j hi hj => ?_) (fun i j hi hj => ?_)
                · obtain ⟨v, e1, _⟩ := hcell i j (by omega) hj
                  rw [hadd] at e1
                  simp [e1]
                · obtain ⟨v, e1, e2⟩ := hcell i j (by omega) hj
                  rw [hadd] at e1
                  simpa [e1] using e2
          · cases h
      case struct fs =>
        obtain ⟨hk1, hk2, hk3⟩ := kid_struct hl ht hu
        unfold DataW.trod at h
        rw [hu] at h
        dsimp only at h
        split at h
        · rename_i hlen
          cases hm : (fs.toList.mapM fun f => DataW.trod enc P w 0 (fun _ => true) true n f.type ((cs.drop f.offset).take (P.cellsOf f.type))) with
          | none => rw [hm] at h; simp at h
          | some xs =>
            have h2 := mapM_some hm
            have h3 : ∃ parts : List (List AV), F2 (fun (fl : Field) p => (p.length = P.cellsOf fl.type ∧ Fit P n fl.type p) ∧ Match w p ((cs.drop fl.offset).take (P.cellsOf fl.type))) fs.toList parts := by
              have hall : ∀ f ∈ fs.toList, f.type < P.types.size ∧ f.offset + P.cellsOf f.type ≤ cs.length := fun f hf => by
                refine ⟨hk1 f hf, ?_⟩
                obtain ⟨j, hj, rfl⟩ := List.mem_iff_getElem.1 hf
                have h5 := hk3 j fs.toList[j] (List.getElem?_eq_getElem hj)
                rw [h5, hlen, hk2]
                have h6 : (fs.toList.map fun f => P.cellsOf f.type).sum = ((fs.toList.take j).map fun f => P.cellsOf f.type).sum + ((fs.toList.drop j).map fun f => P.cellsOf f.type).sum := by
                  rw [← List.sum_append, ← List.map_append, List.take_append_drop]
                rw [h6, List.drop_eq_getElem_cons hj]
                simp
              clear hm h hk1 hk2 hk3
              generalize fs.toList = l at h2 hall
              induction h2 with
              | nil => exact ⟨[], .nil⟩
              | cons h1 t ih2 =>
                rename_i f y l' r'
                obtain ⟨parts, hp⟩ := ih2 fun f hf => hall f (List.mem_cons_of_mem _ hf)
                obtain ⟨g1, g2⟩ := hall f (List.mem_cons_self ..)
                obtain ⟨avs, k1, k2⟩ := ih _ _ _ g1 h1
                exact ⟨avs :: parts, .cons ⟨⟨by rw [k2.1]; simp; omega, k1⟩, k2⟩ hp⟩
            obtain ⟨parts, hp⟩ := h3
            refine ⟨parts.flatten, by unfold Fit; rw [hu]; exact ⟨parts, rfl, forall2_imp (fun _ _ h => h.1) hp⟩, ?_⟩
            have h4 := match_flatten hp
            rw [chunks_struct cs fs.toList 0 (fun j f hj => by simpa using hk3 j f hj)] at h4
            rw [← hk2, ← hlen] at h4
            simpa using h4
        · cases h
      case array m e =>
        obtain ⟨he, hsz⟩ := kid_array hl ht hu
        unfold DataW.trod at h
        rw [hu] at h
        dsimp only at h
        split at h
        · rename_i hlen
          cases hm : ((List.range m).mapM fun i => DataW.trod enc P w 0 (fun _ => true) true n e ((cs.drop (i * P.cellsOf e)).take (P.cellsOf e))) with
          | none => rw [hm] at h; simp at h
          | some xs =>
            have h2 := mapM_some hm
            have h3 : ∃ parts : List (List AV), F2 (fun (i : Nat) p => (p.length = P.cellsOf e ∧ Fit P n e p) ∧ Match w p ((cs.drop (i * P.cellsOf e)).take (P.cellsOf e))) (List.range m) parts := by
              have hall : ∀ i ∈ List.range m, (i + 1) * P.cellsOf e ≤ cs.length := fun i hi => by
                rw [hlen, hsz]
                exact Nat.mul_le_mul_right _ (by have := List.mem_range.1 hi; omega)
              clear hm h hsz
              generalize List.range m = l at h2 hall
              induction h2 with
              | nil => exact ⟨[], .nil⟩
              | cons h1 t ih2 =>
                rename_i i y l' r'
                obtain ⟨parts, hp⟩ := ih2 fun f hf => hall f (List.mem_cons_of_mem _ hf)
                have g2 := hall i (List.mem_cons_self ..)
                obtain ⟨avs, k1, k2⟩ := ih _ _ _ he h1
                rw [Nat.succ_mul] at g2
                exact ⟨avs :: parts, .cons ⟨⟨by rw [k2.1]; simp; omega, k1⟩, k2⟩ hp⟩
            obtain ⟨parts, hp⟩ := h3
            refine ⟨parts.flatten, by unfold Fit; rw [hu]; exact ⟨parts, rfl, by have := forall2_len hp; simpa using this.symm, forall2_right (fun _ _ h => h.1) hp⟩, ?_⟩
            have h4 := match_flatten (g := fun i => (cs.drop (i * P.cellsOf e)).take (P.cellsOf e)) hp
            rw [chunks_array, ← hsz, ← hlen] at h4
            simpa using h4
        · cases h

end Go.AM

/- A law's contract out of a contract over pure trees. -/
namespace Go.AM
open Go.RowKit Go.WideShapes Go.ChangeShapes

def aggT (P : Program) (t : TypeId) : Bool :=
  match P.underlying t with
  | some (.struct _) | some (.array _ _) => true
  | _ => false
def supT (P : Program) (t : TypeId) : Bool :=
  match P.underlying t with
  | some .bool | some (.int _) | some .string | some (.slice _) | some (.struct _) | some (.array _ _) => true
  | _ => false
def argAV (P : Program) (t : TypeId) (avs : List AV) : AV := if aggT P t then .agg avs else avs.getD 0 .any
def argsAV (P : Program) : List TypeId → List (List AV) → List AV
  | t :: ts, a :: avs => argAV P t a :: argsAV P ts avs
  | _, _ => []

theorem match_arg {P : Program} {w : World} {t : TypeId} {v : Value} {avs : List AV} {base : Nat} (hs : supT P t = true) (hok : Value.okWide P w .any base t v) (h : Match w avs v.cells.toList) : RelP (immW w) w (argAV P t avs) v := by
  have hone : (∀ cs, v ≠ .agg cs) → aggT P t = false → RelP (immW w) w (argAV P t avs) v := fun hv ha => by
    have hc : v.cells.toList = [v] := by
      cases v <;> first | rfl | exact absurd rfl (hv _)
    rw [hc] at h
    unfold argAV
    rw [ha]
    exact h.2 0 (by rw [h.1]; simp)
  have hagg : (∃ cs, v = .agg cs) → aggT P t = true → RelP (immW w) w (argAV P t avs) v := fun ⟨cs, e⟩ ha => by
    subst e
    unfold argAV
    rw [ha]
    obtain ⟨l⟩ := cs
    exact .agg _ _ h.1 h.2
  cases hu : P.underlying t with
  | none => simp [supT, hu] at hs
  | some d =>
    cases d <;> first | (simp [supT, hu] at hs; done) | skip
    case bool => obtain ⟨b, rfl⟩ := okWide_bool hu hok; exact hone (by simp) (by simp [aggT, hu])
    case int => obtain ⟨b, rfl⟩ := okWide_int hu hok; exact hone (by simp) (by simp [aggT, hu])
    case string => obtain ⟨b, rfl⟩ := okWide_string hu hok; exact hone (by simp) (by simp [aggT, hu])
    case slice => obtain ⟨b, _, _, rfl⟩ := okWide_slice hu hok; exact hone (by simp) (by simp [aggT, hu])
    case struct => obtain ⟨cs, rfl, _⟩ := okWide_struct hu hok; exact hagg ⟨_, rfl⟩ (by simp [aggT, hu])
    case array =>
      unfold Value.okWide at hok
      rw [hu] at hok
      obtain ⟨cs, rfl, _⟩ := hok
      exact hagg ⟨_, rfl⟩ (by simp [aggT, hu])

theorem args_match {H : Type} {enc : TypeId × Value → H} {P : Program} {w : World} {base : Nat} (hl : laidOutB P = true) : ∀ {ts : List TypeId} {vs : List Value} {ds : List (DataW H)} {ps : List MemPlace}, (∀ t ∈ ts, t < P.types.size ∧ supT P t = true) →
    (∀ (j : Nat) t v, ts[j]? = some t → vs[j]? = some v → Value.okWide P w .any base t v) → DataW.TrodAll enc P w 0 (fun _ => true) true ts vs ds ps →
    ∃ ass, F2 (fun t avs => ∃ n, Fit P n t avs) ts ass ∧ (argsAV P ts ass).length = vs.length ∧ ∀ i, i < vs.length → RelP (immW w) w ((argsAV P ts ass).getD i .any) (vs.getD i undef)
  | [], vs, ds, ps, _, _, h => by
    obtain ⟨rfl, _, _⟩ := trodAll_nil h
    exact ⟨[], .nil, rfl, by simp⟩
  | t :: ts, vs, ds, ps, hts, hv, h => by
    obtain ⟨v, vs', d, ds', p, q, rfl, rfl, rfl, ⟨n, h1⟩, h2⟩ := trodAll_cons h
    obtain ⟨avs, k1, k2⟩ := fit_of_trod hl n t _ _ (hts t (List.mem_cons_self ..)).1 h1
    obtain ⟨ass, j1, j2, j3⟩ := args_match hl (fun t ht => hts t (List.mem_cons_of_mem _ ht)) (fun j t v e1 e2 => hv (j + 1) t v (by simpa using e1) (by simpa using e2)) h2
    refine ⟨avs :: ass, .cons ⟨n, k1⟩ j1, by simp [argsAV, j2], fun i hi => ?_⟩
    cases i with
    | zero => simpa [argsAV] using match_arg (hts t (List.mem_cons_self ..)).2 (hv 0 t v rfl rfl) k2
    | succ i => simpa [argsAV] using j3 i (by simpa using hi)

theorem Ext.below {w w' : World} (h : Ext (fun _ => False) w w') : Below w.heap.size w w' := ⟨h.os, h.tape, h.output, h.size, fun k hk => h.block k hk fun e => e⟩

theorem trodAll_below {H : Type} {enc : TypeId × Value → H} {P : Program} {W W' : World} (hl : laidOutB P = true) (hb : Below W.heap.size W W') {sp : Nat → Bool} : ∀ {ts : List TypeId} {vs : List Value} {ds : List (DataW H)} {ps : List MemPlace},
    (∀ t ∈ ts, t < P.types.size ∧ P.readableRec t = true) → DataW.TrodAll enc P W 0 (fun _ => true) true ts vs ds ps → (∀ p ∈ ps, p.block < W.heap.size ∧ sp p.block = true) → DataW.TrodAll enc P W' 0 sp true ts vs ds ps
  | [], vs, ds, ps, _, h, _ => by
    obtain ⟨rfl, rfl, rfl⟩ := trodAll_nil h
    rfl
  | t :: ts, vs, ds, ps, hts, h, hp => by
    obtain ⟨v, vs', d, ds', p, q, rfl, rfl, rfl, h1, h2⟩ := trodAll_cons h
    obtain ⟨g1, g2⟩ := hts t (List.mem_cons_self ..)
    exact ⟨p, q, WideElems.Trod_stays hl g2 g1 h1 (fun x hx => hb.same (hp x (List.mem_append_left _ hx)).1) (fun x hx => (hp x (List.mem_append_left _ hx)).2),
      trodAll_below hl hb (fun t ht => hts t (List.mem_cons_of_mem _ ht)) h2 (fun x hx => hp x (List.mem_append_right _ hx)), rfl⟩

theorem trodAll_len {H : Type} {enc : TypeId × Value → H} {P : Program} {w : World} {b : Nat} {sp : Nat → Bool} {hd : Bool} : ∀ {ts : List TypeId} {vs : List Value} {ds : List (DataW H)} {ps : List MemPlace}, DataW.TrodAll enc P w b sp hd ts vs ds ps → vs.length = ts.length ∧ ds.length = ts.length
  | [], vs, ds, ps, h => by
    obtain ⟨rfl, rfl, rfl⟩ := trodAll_nil h
    exact ⟨rfl, rfl⟩
  | t :: ts, vs, ds, ps, h => by
    obtain ⟨v, vs', d, ds', p, q, rfl, rfl, rfl, _, h2⟩ := trodAll_cons h
    have := trodAll_len h2
    exact ⟨by simp [this.1], by simp [this.2]⟩

/-- What the form asks of a law's call, out of a contract over pure trees. -/
theorem law_contract {H : Type} {enc : TypeId × Value → H} {P : Program} {fn : Func} {f : FuncId} {s : ChangeSpec} (hl : laidOutB P = true) {ts : List TypeId} {T : TypeId} (hps : fn.params.toList = ts) (hrs : fn.resultTypes = #[T]) (hT : P.underlying T = some .bool)
    (hts : ts.all (fun t => decide (t < P.types.size) && supT P t && P.readableRec t) = true) (hvars : s.vars = []) (hs : ∀ ds : List (DataW H), ds.length = ts.length → s.fn H ds = { results := [.lit (.bool true)], args := ds })
    (hread : ∀ ass, F2 (fun t avs => ∃ n, Fit P n t avs) ts ass → Reads P f false (argsAV P ts ass) (.bool true))
    {W : World} {base : Nat} {args : Array Value} {ds gs : List (DataW H)} {before : List MemPlace} (hval : ∀ (j : Nat) t v, fn.params[j]? = some t → args[j]? = some v → Value.okWide P W .any base t v)
    (hW : DataW.Whole enc P fn.params.toList s.vars false W args.toList ds gs before) (hgl : GL (immF W fun _ => False) W) :
    Calls P f args W fun e W' => ∃ v, e = .returned v ∧ s.post enc P fn false true false false W args v W' := by
  have hts' : ∀ t ∈ ts, t < P.types.size ∧ supT P t = true ∧ P.readableRec t = true := fun t ht => by
    have := List.all_eq_true.1 hts t ht
    simpa [and_assoc] using this
  have hW' := hW
  obtain ⟨p, q, hA, hV, rfl, hfz, hnd⟩ := hW
  rw [hvars] at hV
  obtain ⟨rfl, rfl⟩ := trodVars_none hV
  rw [hps] at hA
  obtain ⟨hl1, hl2⟩ := trodAll_len hA
  obtain ⟨ass, j1, j2, j3⟩ := args_match hl (fun t ht => ⟨(hts' t ht).1, (hts' t ht).2.1⟩) (fun j t v e1 e2 => hval j t v (by rw [← hps] at e1; simpa using e1) (by simpa using e2)) hA
  have hc := hread ass j1 W (fun _ => False) args.toList (fun _ h => h.elim) hgl j2.symm (fun i hi => j3 i (by omega))
  rw [show args.toList.toArray = args by simp] at hc
  refine hc.mono fun e W' ⟨u, h1, h2, h3⟩ => ⟨u, h1, ?_⟩
  have hu : u = .bool true := by cases h3; rfl
  subst hu
  have hb := h2.below
  have hlt : ∀ x ∈ p, x.block < W.heap.size := fun x hx => hW'.lt x (by simpa using hx)
  have hsf := hs ds hl2
  have hres : ∀ (b : Nat) (sp : Nat → Bool) (hd : Bool), DataW.TrodAll enc P W' b sp hd fn.resultTypes.toList ((Value.bool true).resultList fn.resultTypes.size) (s.fn H (ds ++ [])).results [] := fun b sp hd => by
    rw [hrs, List.append_nil, hsf]
    exact trodAll_mk1 (shut_bool hT true)
  have hargs : ∀ sp : Nat → Bool, (∀ x ∈ p, sp x.block = true) → DataW.TrodAll enc P W' 0 sp true fn.params.toList args.toList (s.fn H (ds ++ [])).args p := fun sp hsp => by
    rw [List.append_nil, hsf, hps]
    exact trodAll_below hl hb (fun t ht => ⟨(hts' t ht).1, (hts' t ht).2.2⟩) hA fun x hx => ⟨hlt x hx, hsp x hx⟩
  have hvs : ∀ sp : Nat → Bool, DataW.TrodVars enc P W' sp s.vars (s.fn H (ds ++ [])).vars [] := fun sp => by
    rw [List.append_nil, hsf, hvars]; rfl
  refine ⟨ds, [], p ++ [], [], p, [], hW', hres _ _ _, hargs _ (fun x hx => by simpa using hlt x hx), hvs _, World.keptBut_mono (fun x hx => ⟨hx, ?_⟩) (hb.frame (· ∈ p ++ [])), fun _ => ?_⟩
  · simpa using hx
  · refine ⟨ok_one hrs rfl (okWide_bool_mk hT _), _, _, ([] ++ p) ++ [], ⟨[] ++ p, [], trodAll_append (hargs _ (fun _ _ => rfl)) (hres _ _ _), hvs _, rfl, ?_, ?_⟩, ?_⟩
    · intro b off hp
      have hin : MemPlace.cell b off ∈ p := by simpa using hp
      rw [hb.frozen (hlt _ hin)]
      exact hfz b off (by simpa using hin)
    · intro ha; cases ha
    · intro x hx _
      simpa using hx

end Go.AM

/- The shapes of arguments. -/
namespace Go.AM
theorem fit_int {P : Program} {t : TypeId} {k : IntKind} (hu : P.underlying t = some (.int k)) {f : Nat} {x : List AV} (h : Fit P f t x) : ∃ n, x = [.int k n] ∧ k.min ≤ n ∧ n ≤ k.max := by
  cases f with
  | zero => exact h.elim
  | succ f => unfold Fit at h; rw [hu] at h; exact h
theorem fit_slice {P : Program} {t e : TypeId} {m : Nat} (hu : P.underlying t = some (.slice e)) (hm : P.cellsOf e = m) (h0 : m ≠ 0) {f : Nat} {x : List AV} (h : Fit P f t x) : ∃ es f', x = [.rsl m es] ∧ es.length ≤ maxLen ∧ ∀ y ∈ es, Fit P f' e y := by
  cases f with
  | zero => exact h.elim
  | succ f =>
    unfold Fit at h; rw [hu] at h
    rcases h with h | ⟨es, h1, h2, h3⟩
    · exact absurd (hm ▸ h) h0
    · rw [hm] at h1; exact ⟨es, f, h1, h2, fun y hy => (h3 y hy).2⟩
theorem fit_struct {P : Program} {t : TypeId} {fs : Array Field} (hu : P.underlying t = some (.struct fs)) {f : Nat} {x : List AV} (h : Fit P f t x) : ∃ f' parts, x = List.flatten parts ∧ F2 (fun (fl : Field) p => Fit P f' fl.type p) fs.toList parts := by
  cases f with
  | zero => exact h.elim
  | succ f =>
    unfold Fit at h; rw [hu] at h
    obtain ⟨parts, h1, h2⟩ := h
    exact ⟨f, parts, h1, forall2_imp (fun _ _ h => h.2) h2⟩
theorem F2.two {α β : Type} {R : α → β → Prop} {a b : α} {l : List β} (h : F2 R [a, b] l) : ∃ x y, l = [x, y] ∧ R a x ∧ R b y := by
  cases h with | cons h1 t => cases t with | cons h2 t => cases t with | nil => exact ⟨_, _, rfl, h1, h2⟩
theorem F2.three {α β : Type} {R : α → β → Prop} {a b c : α} {l : List β} (h : F2 R [a, b, c] l) : ∃ x y z, l = [x, y, z] ∧ R a x ∧ R b y ∧ R c z := by
  cases h with | cons h1 t => cases t with | cons h2 t => cases t with | cons h3 t => cases t with | nil => exact ⟨_, _, _, rfl, h1, h2, h3⟩
theorem exists_mapP {α β : Type} {f : α → β} {p : α → Prop} : ∀ {l : List β}, (∀ x ∈ l, ∃ a, x = f a ∧ p a) → ∃ m : List α, l = m.map f ∧ ∀ a ∈ m, p a
  | [], _ => ⟨[], rfl, fun _ h => by cases h⟩
  | x :: l, h => by
    obtain ⟨a, rfl, ha⟩ := h x (List.mem_cons_self ..)
    obtain ⟨m, rfl, hm⟩ := exists_mapP fun y hy => h y (List.mem_cons_of_mem _ hy)
    exact ⟨a :: m, rfl, fun b hb => by rcases List.mem_cons.1 hb with rfl | hb; exact ha; exact hm b hb⟩
theorem okW_of {W : List Int} (h : ∀ w ∈ W, 0 ≤ w ∧ w ≤ 18446744073709551615) : okW W := fun i => by
  by_cases hi : i < W.length
  · have := h _ (mem_getD hi 0); omega
  · rw [List.getD_eq_getElem?_getD, List.getElem?_eq_none (by omega)]; simp
end Go.AM

/- A laid table, as the machine's package variable. -/
namespace Go.AM
theorem rptr_of_laid {P : Program} {n : String} {g : Nat} {t e : TypeId} {k : IntKind} {L : List Int} {W : World} (hg : P.globalNamed n = some g) (ht : (P.globals[g]?).map (·.type) = some t) (hu : P.underlying t = some (.array L.length e))
    (hc : P.cellsOf e = 1) (hc2 : P.cellsOf t = L.length) (hu2 : P.underlying e = some (.int k)) (hL : L ≠ []) (h : laidMet P [(n, .agg (L.map fun i => .lit (.int k i)))] W) : RelP (immF W fun _ => False) W (.rptr (L.map (AV.int k))) (.pointer (some ⟨g, 0, none⟩)) := by
  obtain ⟨ps, ⟨g0, t0, cs0, f0, p0, q0, hg0, ht0, hv0, hd0, _, _⟩, _, _⟩ := h
  obtain rfl := Option.some.inj (hg.symm.trans hg0)
  obtain rfl := Option.some.inj (ht.symm.trans ht0)
  obtain ⟨xs, m, rfl, hx, hlen, hn, hel⟩ := DataW.trod_array hu hd0
  have hcell : ∀ j, j < L.length → W.cell? ⟨g, j, none⟩ = some (.int k (L.getD j 0)) := fun j hj => by
    have h0 := hel j hj
    rw [hc, Nat.mul_one] at h0
    have hjx : j < xs.length := by omega
    rw [List.getElem?_eq_getElem hjx] at h0
    obtain ⟨z, e1, e2, _⟩ := DataW.trod_int hu2 h0
    have hxs : xs.map (·.1) = L.map fun i => .lit (.int k i) := by
      simp only [Prod.mk.injEq, DataW.agg.injEq] at hx
      exact hx.1.symm
    have hzj : (xs.map (·.1))[j]? = (L.map fun i => (.lit (.int k i) : DataW Unit))[j]? := by rw [hxs]
    rw [List.getElem?_map, List.getElem?_map, List.getElem?_eq_getElem hjx, List.getElem?_eq_getElem hj, e2] at hzj
    simp only [Option.map_some, Option.some.injEq, DataW.lit.injEq, Lit.int.injEq] at hzj
    have hz : z = L.getD j 0 := by rw [hzj.2]; simp [List.getD_eq_getElem?_getD, hj]
    have hcs : cs0[j]? = some (.int k z) := by
      have hl : cs0.toList.length = L.length := by rw [hlen, hc2]
      have hd : cs0.toList.drop j = cs0.toList[j]'(by omega) :: cs0.toList.drop (j + 1) := List.drop_eq_getElem_cons (by omega)
      rw [hd] at e1
      simp only [List.take_succ_cons, List.take_zero, List.cons.injEq, and_true] at e1
      rw [← Array.getElem?_toList, List.getElem?_eq_getElem (by omega), e1]
    rw [World.var?_cell hg hv0 j, hcs, hz]
  have hlt : g < W.heap.size := by
    cases L with
    | nil => exact absurd rfl hL
    | cons a l =>
      have := hcell 0 (by simp)
      unfold World.cell? at this
      cases hh : W.heap[g]? with
      | none => simp [hh] at this
      | some o => exact heap_lt hh
  refine .rptr _ g 0 (fun j => .int k (L.getD j 0)) ⟨hlt, fun h => h⟩ (fun j hj => ?_) (fun j hj => ?_)
  · rw [List.length_map] at hj
    rw [Nat.zero_add]
    exact hcell j hj
  · rw [List.length_map] at hj
    have e : (L.map (AV.int k)).getD j .any = .int k (L.getD j 0) := by simp [List.getD_eq_getElem?_getD, hj]
    rw [e]
    exact .int _ _
theorem laidMet_of_H {P : Program} {n : String} {k : IntKind} {L : List Int} {W : World} (h : laidMetH P [(n, .agg (L.map fun i => .lit (.int k i)))] W) : laidMet P [(n, .agg (L.map fun i => .lit (.int k i)))] W := by
  rw [MakeChecks.laidMetH_plain _ _ _ (by rfl)] at h
  exact h
end Go.AM

/- The shapes of the extension laws' arguments. -/
namespace Go.AM
open Go.Proofs
theorem fit_words {f : Nat} {x : List AV} (h : Fit Tryd.prog f 43 x) : ∃ W : List Int, x = [.rsl 1 (words W)] ∧ W.length ≤ 9223372036854775807 ∧ okW W := by
  obtain ⟨es, f2, rfl, h5, h6⟩ := fit_slice (m := 1) Tryd.underlying43 (by kernel_rfl) (by decide) h
  obtain ⟨ws, rfl, hw⟩ := exists_mapP (f := fun x : Int => [AV.int .u64 x]) (p := fun w => 0 ≤ w ∧ w ≤ 18446744073709551615) fun y hy => by
    obtain ⟨n, e, h1, h2⟩ := fit_int Tryd.underlying45 (h6 y hy)
    exact ⟨n, e, by simpa [IntKind.min, IntKind.signed] using h1, by simpa [IntKind.max, IntKind.signed, IntKind.bits] using h2⟩
  exact ⟨ws, rfl, by simpa [maxLen] using h5, okW_of hw⟩
theorem fit_set {f : Nat} {x : List AV} (h : Fit Tryd.prog f 47 x) : ∃ y : USet, x = rowV y ∧ y.W.length ≤ 9223372036854775807 ∧ okW y.W := by
  obtain ⟨f', parts, rfl, h2⟩ := fit_struct Tryd.underlying47 h
  obtain ⟨a, b, rfl, h3, h4⟩ := F2.two h2
  obtain ⟨i, rfl, _⟩ := fit_int Tryd.underlying3 h3
  obtain ⟨W, rfl, h5, h6⟩ := fit_words h4
  exact ⟨⟨i, W⟩, rfl, h5, h6⟩
theorem F2.one {α β : Type} {R : α → β → Prop} {a : α} {l : List β} (h : F2 R [a] l) : ∃ x, l = [x] ∧ R a x := by
  cases h with | cons h1 t => cases t with | nil => exact ⟨_, rfl, h1⟩
theorem fit_rel {f : Nat} {x : List AV} (h : Fit Tryd.prog f 24 x) : ∃ rs : List USet, x = [.rsl 2 (rs.map rowV)] ∧ (rs.length ≤ 9223372036854775807 ∧ ∀ y ∈ rs, y.W.length ≤ 9223372036854775807) ∧ ∀ y ∈ rs, okW y.W := by
  obtain ⟨f', parts, rfl, h2⟩ := fit_struct Tryd.underlying24 h
  obtain ⟨a, rfl, h3⟩ := F2.one h2
  obtain ⟨es, f2, rfl, h5, h6⟩ := fit_slice (m := 2) Tryd.underlying22 (by kernel_rfl) (by decide) h3
  obtain ⟨rs, rfl, hr⟩ := exists_mapP (f := rowV) (p := fun y => y.W.length ≤ 9223372036854775807 ∧ okW y.W) fun y hy => fit_set (h6 y hy)
  exact ⟨rs, rfl, ⟨by simpa [maxLen] using h5, fun y hy => (hr y hy).1⟩, fun y hy => (hr y hy).2⟩
theorem pgl {W : World} (h : laidMetH Tryd.prog [("math/bits.deBruijn64tab", .agg (tzTab.map fun i => .lit (.int .u8 i)))] W) : GL (immF W fun _ => False) W := fun g cs e => by
  cases g with
  | zero =>
    rw [globA_aux] at e
    obtain rfl := Option.some.inj e
    exact rptr_of_laid (L := tzTab) (by kernel_rfl : Tryd.prog.globalNamed "math/bits.deBruijn64tab" = some 0) (by kernel_rfl : (Tryd.prog.globals[0]?).map (·.type) = some 106) (e := 5) Tryd.underlying106 (by kernel_rfl) (by kernel_rfl) Tryd.underlying5 (by decide) (laidMet_of_H h)
  | succ g => cases e
theorem pmet (os : Os) (args : Array Value) : laidMetH Tryd.prog [("math/bits.deBruijn64tab", .agg (tzTab.map fun i => .lit (.int .u8 i)))] ((World.doorLaid Tryd.prog 400 os).forCall (fun _ _ => 0) ⟨#[], args, []⟩).memory :=
  laidMetH_of_parts3 (fuel := 8) (laidMet_of_run' 8 (by kernel_rfl) (by kernel_rfl)) (by kernel_rfl) (by kernel_rfl)
end Go.AM

