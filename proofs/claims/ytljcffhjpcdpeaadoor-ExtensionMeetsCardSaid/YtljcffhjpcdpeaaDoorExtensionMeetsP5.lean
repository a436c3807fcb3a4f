/- Lemmas and contracts, part 5: an abstract machine over the model, and the functions that the statement reaches. -/
import Derived.Test.YtljcffhjpcdpeaaDoorExtensionMeetsP4
set_option linter.unusedVariables false
set_option linter.unusedSimpArgs false
open Nat renaming reduceAdd → zA, reduceMul → zM, reduceEqDiff → zE, reduceLT → zL, reduceLeDiff → zD, reduceSub → zS, reducePow → zP, reduceBEq → zB
open Int renaming reduceToNat → zI
open List renaming reduceReplicate → zR
namespace Go.Proofs.X
open Go.AM Go
set_option maxRecDepth 100000
set_option maxHeartbeats 4000000
theorem allW_eq (n : Nat) (t : List (List Bool)) : allW n t = min (cE (belL n t) n n (List.replicate n false) : Int) 1125899906842625 := by
  have := ways_spec (bel := belL n t) (n := n) (a := 0) (Nat.zero_le _) (S := List.replicate n false) (by simp [lvAt])
  exact this
theorem rank_u (n : Nat) (t : List (List Bool)) (hs : Sq n t) (hn : n ≤ 512) (hp : poB n t = true) (hbud : cntL (belL n t) n n ≤ 5000) (hbig : allW n t ≤ 1125899906842624) (l : List Int) (hx : extB n (belL n t) l = true) :
    Reads Tryd.prog 26 false [relB t, .rsl 1 (ints l)] (.tup [.int .i64 (rankC (belL n t) n l n : Nat), .int .i64 0]) := by
  have hv := pvalid_g n t hs hn
  rw [hp] at hv
  have hIE := extB_iff.1 hx
  have hln := hIE.len
  have hc := counted_u n t hs hn hp hbud hbig
  have hcb : cE (belL n t) n n (List.replicate n false) ≤ 1125899906842624 := by rw [allW_eq] at hbig; omega
  have hWk := downW_ok (belL n t) n (n + 1)
  have hmw := hWk.mapWf (P := Tryd.prog) keyOk9
  have hflt := hWk.flt
  have he := extends_g n t hs hn l (by omega)
  rw [hx] at he
  have ho := open_u n t hs hn
  have hok := belL_ok t hn
  have hways := fun m (hm : m < n) x (hx : x < n) hf => hIE.ways hcb hm hx hf
  have hbnd := fun m (hm : m < n) i hi => hIE.bound (i := i) hm hi
  have hkey := fun d hd => Reads.flat (key_r n (belL n t) d hd hn) rfl
  have hnext := fun m i hi => Reads.flat (next_r hok (dAt n l m) (dAt_len n l m) i hi) rfl
  unfold waysE at *
  generalize downW (belL n t) n (n + 1) = E at *
  generalize allW n t = A at *
  unfold stO stV relB at *
  generalize belL n t = bel at *
  refine Reads.body (rs := [.tmp 4, .tmp 5]) Tryd.func26 rfl Tryd.ntmps26 rfl (by simp) ?_
  generalize hQr : retQ _ _ _ = Qr
  refine AW.seq fun K1 hK1 => ?_
  refine AW.regionK 0 (fun _ => none) [1, 2] [2, 25, 33] ?_
  simp only [go_sem, reduceIte, reduceCtorEq, zA, zM, zE, zL, zD, zS, zP, zB, zI, zR, bools_len, ints_len]
  repeat with_reducible refine cj ?_ ?_
  all_goals try first | omega
  refine hK1 _ _ _ ?_; clear hK1
  refine AW.seq fun K2 hK2 => ?_
  refine AW.block ?_
  refine AW.seq fun K3 hK3 => ?_
  refine AW.regionK 0 (fun ii => if ii = 1 then some (.reads false (.bool true)) else none) [1, 2, 14] [2, 25, 33] ?_
  simp only [go_sem, reduceIte, reduceCtorEq, zA, zM, zE, zL, zD, zS, zP, zB, zI, zR, bools_len, ints_len]
  repeat with_reducible refine cj ?_ ?_
  all_goals try first | (exact hv) | omega | exact ent (by kernel_rfl)
  refine hK3 _ _ _ ?_; clear hK3
  refine AW.cond rfl (by simp only [go_sem, reduceIte, reduceCtorEq, zA, zM, zE, zL, zD, zS, zP, zB, zI, zR]) ?_ ?_
  · intro hb
    try simp only [hB, decide_eq_true_eq, decide_eq_false_iff_not] at hb
    exfalso; simp at hb
  · intro hb
    try simp only [hB, decide_eq_true_eq, decide_eq_false_iff_not] at hb
    refine AW.seq fun K4 hK4 => ?_
    refine AW.regionK 0 (fun ii => if ii = 2 then some (.reads false (.bool true)) else none) [1, 2, 18] [2, 25, 33] ?_
    simp only [go_sem, reduceIte, reduceCtorEq, zA, zM, zE, zL, zD, zS, zP, zB, zI, zR, bools_len, ints_len]
    repeat with_reducible refine cj ?_ ?_
    all_goals try first | (exact he) | omega | exact ent (by kernel_rfl)
    refine hK4 _ _ _ ?_; clear hK4
    refine AW.cond rfl (by simp only [go_sem, reduceIte, reduceCtorEq, zA, zM, zE, zL, zD, zS, zP, zB, zI, zR]) ?_ ?_
    · intro hb
      try simp only [hB, decide_eq_true_eq, decide_eq_false_iff_not] at hb
      exfalso; simp at hb
    · intro hb
      try simp only [hB, decide_eq_true_eq, decide_eq_false_iff_not] at hb
      refine AW.skip ?_
      refine hK2 _ _ _ ?_; clear hK2
      refine AW.seq fun K5 hK5 => ?_
      refine AW.regionK 0 (fun ii => if ii = 1 then some (.upd [] (fun k => [(0, some ⟨k, k, mapSz, E⟩)]) (fun k => .tup [.mp ⟨0, k, none⟩, .int .i64 A, .int .i64 0])) else none) [1, 2, 6, 8] [2, 25] ?_
      simp only [go_sem, reduceIte, reduceCtorEq, zA, zM, zE, zL, zD, zS, zP, zB, zI, zR, bools_len, ints_len, hflt]
      repeat with_reducible refine cj ?_ ?_
      all_goals try first | (exact hc) | omega | exact ent (by kernel_rfl)
      refine hK5 _ _ _ ?_; clear hK5
      refine AW.seq fun K6 hK6 => ?_
      refine AW.seq fun K7 hK7 => ?_
      refine AW.regionK 0 (fun _ => none) [1, 2, 6, 8, 30] [2, 25] ?_
      simp only [go_sem, reduceIte, reduceCtorEq, zA, zM, zE, zL, zD, zS, zP, zB, zI, zR, bools_len, ints_len]
      repeat with_reducible refine cj ?_ ?_
      all_goals try first | omega
      refine hK7 _ _ _ ?_; clear hK7
      refine AW.cond rfl (by simp only [go_sem, reduceIte, reduceCtorEq, zA, zM, zE, zL, zD, zS, zP, zB, zI, zR]) ?_ ?_
      · intro hb
        try simp only [hB, decide_eq_true_eq, decide_eq_false_iff_not] at hb
        exfalso; simp at hb
      · intro hb
        try simp only [hB, decide_eq_true_eq, decide_eq_false_iff_not] at hb
        refine AW.skip ?_
        refine hK6 _ _ _ ?_; clear hK6
        refine AW.seq fun K8 hK8 => ?_
        refine AW.regionK 0 (fun ii => if ii = 1 then some (.upd [] (fun k => [(0, some ⟨k, k, 3, [[.int .i64 n, .rsl 1 (lisR bel), .osl 1 (bools (List.replicate n false))]]⟩)]) (fun k => .ptr ⟨0, k, none⟩ 0 0)) else none) [1, 6, 9] [25, 33] ?_
        simp only [go_sem, reduceIte, reduceCtorEq, zA, zM, zE, zL, zD, zS, zP, zB, zI, zR, bools_len, ints_len]
        repeat with_reducible refine cj ?_ ?_
        all_goals try first | (exact ho) | omega | exact ent (by kernel_rfl)
        refine hK8 _ _ _ ?_; clear hK8
        refine AW.seq fun K9 hK9 => ?_
        refine AW.regionK 0 (fun _ => none) [1, 6, 9, 10] [25, 33] ?_
        simp only [go_sem, reduceIte, reduceCtorEq, zA, zM, zE, zL, zD, zS, zP, zB, zI, zR, bools_len, ints_len]
        repeat with_reducible refine cj ?_ ?_
        all_goals try first | omega
        refine hK9 _ _ _ ?_; clear hK9
        refine AW.seq fun K10 hK10 => ?_
        refine AW.seq fun K11 hK11 => ?_
        refine AW.regionK 0 (fun _ => none) [6, 9, 10, 34, 35, 36] [25, 33] ?_
        simp only [go_sem, reduceIte, reduceCtorEq, zA, zM, zE, zL, zD, zS, zP, zB, zI, zR, bools_len, ints_len]
        repeat with_reducible refine cj ?_ ?_
        all_goals try first | omega
        refine hK11 _ _ _ ?_; clear hK11
        refine AW.block ?_
        refine AW.loopE (fun mm ee ss kk => ∃ (k g3 v3 g5 v5 : Nat), n - k = mm ∧ ee = [(6, .mp ⟨25, g3, none⟩), (9, .ptr ⟨33, g5, none⟩ 0 0), (10, .int .i64 (rankC bel n l k : Nat)), (34, .rsl 1 (ints l)), (35, .int .i64 n), (36, .int .i64 (k : Nat))] ∧ ss = [(25, some ⟨g3, v3, mapSz, E⟩), (33, some ⟨g5, v5, 3, [[.int .i64 n, .rsl 1 (lisR bel), .osl 1 (bools (dAt n l k))]]⟩)] ∧ (k ≤ n)) ?_ ?_
        · refine ⟨_, 0, ?_, ?_, ?_, ?_, rfl, ?henv, ?hstore, ?hst⟩
          case henv =>
            repeat' (first | rfl | refine env_cons ?_ ?_ | refine st_cons ?_ ?_ ?_ ?_ | refine int_eq ?_ | refine bool_eq ?_ | refine rsl_eq ?_ | refine osl_eq ?_ | refine sl_eq ?_ ?_ ?_ | refine ptr_eq ?_ ?_ ?_ | refine agg_eq ?_ | refine es_cons ?_ ?_ | refine row_cons ?_ ?_)
            all_goals (first | omega | rfl | (rw [hln]))
          case hstore =>
            repeat' (first | rfl | refine env_cons ?_ ?_ | refine st_cons ?_ ?_ ?_ ?_ | refine int_eq ?_ | refine bool_eq ?_ | refine rsl_eq ?_ | refine osl_eq ?_ | refine sl_eq ?_ ?_ ?_ | refine ptr_eq ?_ ?_ ?_ | refine agg_eq ?_ | refine es_cons ?_ ?_ | refine row_cons ?_ ?_)
            all_goals (first | (simp; done) | omega | (simp; omega))
          case hst =>
            first | trivial | omega | (simp; done) | (simp; omega)
        rintro mm ee ss kk ⟨k, g3, v3, g5, v5, rfl, rfl, rfl, hI⟩
        generalize hQl1 : thenQ _ _ = Ql1
        have hdl := dAt_len n l k
        refine AW.seq fun K12 hK12 => ?_
        refine AW.regionK 0 (fun _ => none) [6, 9, 10, 34, 35, 36, 37] [25, 33] ?_
        simp only [go_sem, reduceIte, reduceCtorEq, zA, zM, zE, zL, zD, zS, zP, zB, zI, zR, bools_len, ints_len]
        repeat with_reducible refine cj ?_ ?_
        all_goals try first | omega
        refine hK12 _ _ _ ?_; clear hK12
        refine AW.seq fun K13 hK13 => ?_
        refine AW.cond rfl (by simp only [go_sem, reduceIte, reduceCtorEq, zA, zM, zE, zL, zD, zS, zP, zB, zI, zR]) ?_ ?_
        · intro hb
          try simp only [hB, decide_eq_true_eq, decide_eq_false_iff_not] at hb
          have hk : k < n := by omega
          have hgx := ints_getD (l := l) (i := k) (by omega)
          obtain ⟨hx0, hx1⟩ := hIE.rng k hk
          have hfx := hIE.free k hk
          have hds := dAt_succ (n := n) (l := l) (m := k) (by omega)
          have hnx := hnext k
          have hwy := hways k hk
          have hbd := hbnd k hk
          have hrs : rankC bel n l (k + 1) = rankC bel n l k + sumF (freeL bel (dAt n l k)) (fun x => cE bel n (n - (k + 1)) ((dAt n l k).set x true)) (l.getD k 0).toNat := rfl
          generalize hX : l.getD k 0 = x at *
          generalize hD : dAt n l k = d at *
          refine AW.skip ?_
          refine hK13 _ _ _ ?_; clear hK13
          refine AW.seq fun K14 hK14 => ?_
          refine AW.block ?_
          refine AW.seq fun K15 hK15 => ?_
          refine AW.regionK 0 (fun _ => none) [6, 9, 10, 12, 34, 35, 36] [25, 33] ?_
          simp only [go_sem, reduceIte, reduceCtorEq, zA, zM, zE, zL, zD, zS, zP, zB, zI, zR, bools_len, ints_len, hgx]
          repeat with_reducible refine cj ?_ ?_
          all_goals try first | omega
          refine hK15 _ _ _ ?_; clear hK15
          refine AW.seq fun K16 hK16 => ?_
          refine AW.seq fun K17 hK17 => ?_
          refine AW.regionK 0 (fun ii => if ii = 1 then some (.reads true (.int .i64 (nxt (freeL bel d) n 0))) else none) [6, 9, 10, 12, 13, 34, 35, 36] [25, 33] ?_
          simp only [go_sem, reduceIte, reduceCtorEq, zA, zM, zE, zL, zD, zS, zP, zB, zI, zR, bools_len, ints_len]
          repeat with_reducible refine cj ?_ ?_
          all_goals try first | (exact hnx 0 (by omega)) | omega | exact ent (by kernel_rfl)
          refine hK17 _ _ _ ?_; clear hK17
          refine AW.block ?_
          refine AW.loopE (fun mm ee ss kk => ∃ (i g3 v3 g5 v5 : Nat), n + 1 - i = mm ∧ ee = [(6, .mp ⟨25, g3, none⟩), (9, .ptr ⟨33, g5, none⟩ 0 0), (10, .int .i64 (rankC bel n l k + sumF (freeL bel d) (fun x => cE bel n (n - (k + 1)) (d.set x true)) i : Nat)), (12, .int .i64 x), (13, .int .i64 (nxt (freeL bel d) n i)), (34, .rsl 1 (ints l)), (35, .int .i64 n), (36, .int .i64 (k : Nat))] ∧ ss = [(25, some ⟨g3, v3, mapSz, E⟩), (33, some ⟨g5, v5, 3, [[.int .i64 n, .rsl 1 (lisR bel), .osl 1 (bools d)]]⟩)] ∧ (i ≤ x.toNat)) ?_ ?_
          · refine ⟨_, 0, ?_, ?_, ?_, ?_, rfl, ?henv, ?hstore, ?hst⟩
            case henv =>
              repeat' (first | rfl | refine env_cons ?_ ?_ | refine st_cons ?_ ?_ ?_ ?_ | refine int_eq ?_ | refine bool_eq ?_ | refine rsl_eq ?_ | refine osl_eq ?_ | refine sl_eq ?_ ?_ ?_ | refine ptr_eq ?_ ?_ ?_ | refine agg_eq ?_ | refine es_cons ?_ ?_ | refine row_cons ?_ ?_)
              all_goals (first | (simp; done) | omega | (simp; omega))
            case hstore =>
              repeat' (first | rfl | refine env_cons ?_ ?_ | refine st_cons ?_ ?_ ?_ ?_ | refine int_eq ?_ | refine bool_eq ?_ | refine rsl_eq ?_ | refine osl_eq ?_ | refine sl_eq ?_ ?_ ?_ | refine ptr_eq ?_ ?_ ?_ | refine agg_eq ?_ | refine es_cons ?_ ?_ | refine row_cons ?_ ?_)
              all_goals (first | (simp; done) | omega | (simp; omega))
            case hst =>
              first | trivial | omega | (simp; done) | (simp; omega)
          rintro mm ee ss kk ⟨i, g3, v3, g5, v5, rfl, rfl, rfl, hI⟩
          generalize hQl2 : thenQ _ _ = Ql2
          have hsn := sum_next (p := freeL bel d) (fun x => cE bel n (n - (k + 1)) (d.set x true)) (n := n) (i := i) (x := x.toNat) hI (by omega)
          refine AW.seq fun K18 hK18 => ?_
          refine AW.seq fun K19 hK19 => ?_
          refine AW.regionK 0 (fun _ => none) [6, 9, 10, 12, 13, 34, 35, 36, 48] [25, 33] ?_
          simp only [go_sem, reduceIte, reduceCtorEq, zA, zM, zE, zL, zD, zS, zP, zB, zI, zR, bools_len, ints_len]
          repeat with_reducible refine cj ?_ ?_
          all_goals try first | omega | (intros; (repeat' apply And.intro) <;> first | assumption | omega | decide) | (intro hgd; exact absurd hgd (by decide)) | rfl | (simp only [go_sem, reduceIte, reduceCtorEq, zA, zM, zE, zL, zD, zS, zP, zB, zI, zR, bools_len, ints_len]; done) | (intro _hgd; simp_all [go_sem]; done)
          refine hK19 _ _ _ ?_; clear hK19
          refine AW.cond rfl (by simp only [go_sem, reduceIte, reduceCtorEq, zA, zM, zE, zL, zD, zS, zP, zB, zI, zR]) ?_ ?_
          · intro hb
            try simp only [hB, decide_eq_true_eq, decide_eq_false_iff_not] at hb
            have hb2 : 0 ≤ nxt (freeL bel d) n i ∧ nxt (freeL bel d) n i < (x.toNat : Int) := by
              omega
            obtain ⟨q, hq1, hq2, hq3, hq4, hq5⟩ := hsn.1 hb2
            clear hsn
            have hdq := freeL_not hq4
            have hxt : (nxt (freeL bel d) n i).toNat = q := by omega
            have hxr : 0 ≤ nxt (freeL bel d) n i ∧ nxt (freeL bel d) n i < (n : Int) := by omega
            have hxs : nxt (freeL bel d) n i + 1 = ((q + 1 : Nat) : Int) := by omega
            have hd2 : (d.set q true).length = n := by rw [List.length_set]; exact hdl
            have hk2 := hkey _ hd2
            have hw2 := hwy q (by omega) hq4
            have hn2 := hnx (q + 1) (by omega)
            have hb3 := hbd (q + 1) (by omega)
            have hss : (d.set q true).set q false = d := by rw [List.set_set, ← hdq]; exact set_same d q false
            have hsum : ((rankC bel n l k + sumF (freeL bel d) (fun x => cE bel n (n - (k + 1)) (d.set x true)) i : Nat) : Int) + (cE bel n (n - (k + 1)) (d.set q true) : Nat) = ((rankC bel n l k + sumF (freeL bel d) (fun x => cE bel n (n - (k + 1)) (d.set x true)) (q + 1) : Nat) : Int) := by rw [hq5]; omega
            refine AW.skip ?_
            refine hK18 _ _ _ ?_; clear hK18
            refine AW.seq fun K20 hK20 => ?_
            refine AW.block ?_
            refine AW.seq fun K21 hK21 => ?_
            refine AW.regionK 0 (fun _ => none) [6, 9, 10, 12, 13, 34, 35, 36] [25, 33] ?_
            simp only [go_sem, reduceIte, reduceCtorEq, zA, zM, zE, zL, zD, zS, zP, zB, zI, zR, bools_len, ints_len, hxt, hdl, bools_upd]
            repeat with_reducible refine cj ?_ ?_
            all_goals try first | omega
            refine hK21 _ _ _ ?_; clear hK21
            refine AW.seq fun K22 hK22 => ?_
            refine AW.regionK 0 (fun ii => if ii = 3 then some (.reads true (.str (keyS (d.set q true)))) else none) [6, 9, 10, 12, 13, 34, 35, 36] [25, 33] ?_
            simp only [go_sem, reduceIte, reduceCtorEq, zA, zM, zE, zL, zD, zS, zP, zB, zI, zR, bools_len, ints_len, hw2, hsum]
            repeat with_reducible refine cj ?_ ?_
            all_goals try first | (first | exact hk2 | exact hmw) | omega | exact ent (by kernel_rfl)
            refine hK22 _ _ _ ?_; clear hK22
            refine AW.regionK 0 (fun _ => none) [6, 9, 10, 12, 13, 34, 35, 36] [25, 33] ?_
            simp only [go_sem, reduceIte, reduceCtorEq, zA, zM, zE, zL, zD, zS, zP, zB, zI, zR, bools_len, ints_len, hxt, hd2, bools_upd, hss]
            repeat with_reducible refine cj ?_ ?_
            all_goals try first | omega
            refine hK20 _ _ _ ?_; clear hK20
            refine AW.regionK 0 (fun ii => if ii = 3 then some (.reads true (.int .i64 (nxt (freeL bel d) n (q + 1)))) else none) [6, 9, 10, 12, 13, 34, 35, 36] [25, 33] ?_
            simp only [go_sem, reduceIte, reduceCtorEq, zA, zM, zE, zL, zD, zS, zP, zB, zI, zR, bools_len, ints_len, hxs]
            repeat with_reducible refine cj ?_ ?_
            all_goals try first | (exact hn2) | omega | exact ent (by kernel_rfl)
            rw [← hQl2]
            change Exists _
            refine ⟨_, ?hm, q + 1, ?_, ?_, ?_, ?_, rfl, ?henv, ?hstore, ?hst⟩
            case henv =>
              repeat' (first | rfl | refine env_cons ?_ ?_ | refine st_cons ?_ ?_ ?_ ?_ | refine int_eq ?_ | refine bool_eq ?_ | refine rsl_eq ?_ | refine osl_eq ?_ | refine sl_eq ?_ ?_ ?_ | refine ptr_eq ?_ ?_ ?_ | refine agg_eq ?_ | refine es_cons ?_ ?_ | refine row_cons ?_ ?_)
              all_goals (first | (simp; done) | omega | (simp; omega))
            case hstore =>
              repeat' (first | rfl | refine env_cons ?_ ?_ | refine st_cons ?_ ?_ ?_ ?_ | refine int_eq ?_ | refine bool_eq ?_ | refine rsl_eq ?_ | refine osl_eq ?_ | refine sl_eq ?_ ?_ ?_ | refine ptr_eq ?_ ?_ ?_ | refine agg_eq ?_ | refine es_cons ?_ ?_ | refine row_cons ?_ ?_)
              all_goals (first | (simp; done) | omega | (simp; omega))
            case hst =>
              omega
            case hm => omega
          · intro hb
            try simp only [hB, decide_eq_true_eq, decide_eq_false_iff_not] at hb
            have hb9 : ¬ (0 ≤ nxt (freeL bel d) n i ∧ nxt (freeL bel d) n i < (x.toNat : Int)) := by
              clear hsn
              omega
            have hse := hsn.2 hb9
            clear hsn
            rw [← hse, ← hrs]
            refine AW.keep [6, 9, 10, 12, 34, 35, 36] [25, 33] ?_
            try simp only [go_sem, reduceIte, reduceCtorEq, zA, zM, zE, zL, zD, zS, zP, zB, zI, zR]
            refine AW.exit ?_
            rw [← hQl2]
            refine hK16 _ _ _ ?_; clear hK16
            refine AW.regionK 0 (fun _ => none) [6, 9, 10, 34, 35, 36] [25, 33] ?_
            simp only [go_sem, reduceIte, reduceCtorEq, zA, zM, zE, zL, zD, zS, zP, zB, zI, zR, bools_len, ints_len, hdl, bools_upd]
            repeat with_reducible refine cj ?_ ?_
            all_goals try first | omega
            refine hK14 _ _ _ ?_; clear hK14
            refine AW.regionK 0 (fun _ => none) [6, 9, 10, 34, 35, 36] [25, 33] ?_
            simp only [go_sem, reduceIte, reduceCtorEq, zA, zM, zE, zL, zD, zS, zP, zB, zI, zR, bools_len, ints_len]
            repeat with_reducible refine cj ?_ ?_
            all_goals try first | omega
            rw [← hQl1]
            change Exists _
            refine ⟨_, ?hm, k + 1, ?_, ?_, ?_, ?_, rfl, ?henv, ?hstore, ?hst⟩
            case henv =>
              repeat' (first | rfl | refine env_cons ?_ ?_ | refine st_cons ?_ ?_ ?_ ?_ | refine int_eq ?_ | refine bool_eq ?_ | refine rsl_eq ?_ | refine osl_eq ?_ | refine sl_eq ?_ ?_ ?_ | refine ptr_eq ?_ ?_ ?_ | refine agg_eq ?_ | refine es_cons ?_ ?_ | refine row_cons ?_ ?_)
              all_goals (first | (simp; done) | omega | (simp; omega))
            case hstore =>
              repeat' (first | rfl | refine env_cons ?_ ?_ | refine st_cons ?_ ?_ ?_ ?_ | refine int_eq ?_ | refine bool_eq ?_ | refine rsl_eq ?_ | refine osl_eq ?_ | refine sl_eq ?_ ?_ ?_ | refine ptr_eq ?_ ?_ ?_ | refine agg_eq ?_ | refine es_cons ?_ ?_ | refine row_cons ?_ ?_)
              all_goals (rw [hds])
            case hst =>
              omega
            case hm => omega
        · intro hb
          try simp only [hB, decide_eq_true_eq, decide_eq_false_iff_not] at hb
          have hkn : k = n := by omega
          subst hkn
          refine AW.keep [10] [25, 33] ?_
          try simp only [go_sem, reduceIte, reduceCtorEq, zA, zM, zE, zL, zD, zS, zP, zB, zI, zR]
          refine AW.exit ?_
          rw [← hQl1]
          refine hK10 _ _ _ ?_; clear hK10
          refine AW.seq fun K23 hK23 => ?_
          refine AW.regionK 0 (fun _ => none) [4, 5] [25, 33] ?_
          simp only [go_sem, reduceIte, reduceCtorEq, zA, zM, zE, zL, zD, zS, zP, zB, zI, zR, bools_len, ints_len]
          repeat with_reducible refine cj ?_ ?_
          all_goals try first | omega
          refine hK23 _ _ _ ?_; clear hK23
          refine AW.ret ?_
          rw [← hQr]
          simp only [go_sem, reduceIte, reduceCtorEq, zA, zM, zE, zL, zD, zS, zP, zB, zI, zR, bools_len, ints_len]
          exact Wk.refl _
end Go.Proofs.X

namespace Go.Proofs.X
open Go.AM Go
set_option maxRecDepth 100000
set_option maxHeartbeats 4000000
end Go.Proofs.X

/- The reference's words about linear extensions. -/
namespace Go.AM
def eaOk (n : Nat) (d : List Bool) (i : Int) : Bool := decide (0 ≤ i) && decide (i < n) && !d.getD i.toNat false
def eachGo (n : Nat) : List Bool → List Int → Bool
  | _, [] => true
  | d, i :: l => eaOk n d i && eachGo n (d.set i.toNat true) l
def eachB (n : Nat) (l : List Int) : Bool := decide (l.length = n) && eachGo n (List.replicate n false) l
theorem eachGo_app (n : Nat) : ∀ (l m : List Int) (d : List Bool), eachGo n d (l ++ m) = (eachGo n d l && eachGo n (exD d l) m)
  | [], m, d => by simp [eachGo, exD]
  | i :: l, m, d => by
    show (eaOk n d i && eachGo n (d.set i.toNat true) (l ++ m)) = ((eaOk n d i && eachGo n (d.set i.toNat true) l) && eachGo n (exD (d.set i.toNat true) l) m)
    rw [eachGo_app n l m, Bool.and_assoc]
structure IsEach (n : Nat) (l : List Int) : Prop where
  len : l.length = n
  rng : ∀ m, m < n → 0 ≤ l.getD m 0 ∧ l.getD m 0 < (n : Int)
  new : ∀ m, m < n → (dAt n l m).getD (l.getD m 0).toNat false = false
theorem eachGo_at {n : Nat} {d : List Bool} {l : List Int} (h : eachGo n d l = true) {m : Nat} (hm : m < l.length) : eaOk n (exD d (l.take m)) (l.getD m 0) = true := by
  have h1 := eachGo_app n (l.take m) (l.drop m) d
  rw [List.take_append_drop, h] at h1
  have h2 : eachGo n (exD d (l.take m)) (l.drop m) = true := by
    cases e : eachGo n (exD d (l.take m)) (l.drop m) with
    | true => rfl
    | false => rw [e] at h1; simp at h1
  rw [List.drop_eq_getElem_cons hm] at h2
  unfold eachGo at h2
  simp only [Bool.and_eq_true] at h2
  have : l.getD m 0 = l[m] := by simp [List.getD_eq_getElem?_getD, List.getElem?_eq_getElem hm]
  rw [this]; exact h2.1
theorem eachB_iff {n : Nat} {l : List Int} : eachB n l = true ↔ IsEach n l := by
  constructor
  · intro h
    unfold eachB at h
    simp only [Bool.and_eq_true, decide_eq_true_eq] at h
    have key := fun m (hm : m < n) => eachGo_at h.2 (m := m) (by omega)
    unfold eaOk at key
    simp only [Bool.and_eq_true, decide_eq_true_eq, Bool.not_eq_true'] at key
    exact ⟨h.1, fun m hm => (key m hm).1, fun m hm => (key m hm).2⟩
  · intro h
    unfold eachB
    simp only [Bool.and_eq_true, decide_eq_true_eq]
    refine ⟨h.len, ?_⟩
    have : ∀ m, m ≤ n → eachGo n (List.replicate n false) (l.take m) = true := by
      intro m
      induction m with
      | zero => intro _; simp [eachGo]
      | succ m ih =>
        intro hm
        rw [List.take_add_one, List.getElem?_eq_getElem (by rw [h.len]; omega), Option.toList_some, eachGo_app, ih (by omega), Bool.true_and]
        have h1 := h.rng m (by omega)
        have h2 := h.new m (by omega)
        have e : l[m]'(by rw [h.len]; omega) = l.getD m 0 := by simp [List.getD_eq_getElem?_getD, List.getElem?_eq_getElem (show m < l.length by rw [h.len]; omega)]
        rw [e]
        unfold dAt at h2
        simp only [eachGo, eaOk, h1.1, h1.2, h2, decide_true, Bool.and_self, Bool.not_false]
    have := this n (Nat.le_refl _)
    rwa [List.take_of_length_le (by rw [h.len]; exact Nat.le_refl _)] at this
/-- What is marked was in the list. -/
theorem dAt_mem {n : Nat} {l : List Int} (hr : ∀ m, m < n → 0 ≤ l.getD m 0 ∧ l.getD m 0 < (n : Int)) (hl : l.length = n) {i : Nat} (hi : i < n) : ∀ m, m ≤ n → ((dAt n l m).getD i false = true ↔ ∃ k, k < m ∧ l.getD k 0 = (i : Nat))
  | 0, _ => by simp [dAt, exD, List.getD_eq_getElem?_getD, List.getElem?_replicate]; split <;> simp
  | m + 1, hm => by
    have ih := dAt_mem hr hl hi m (by omega)
    have h1 := hr m (by omega)
    rw [dAt_succ (by omega), getD_setB]
    by_cases e : (l.getD m 0).toNat = i
    · rw [if_pos ⟨e, by rw [dAt_len]; omega⟩]
      exact ⟨fun _ => ⟨m, by omega, by omega⟩, fun _ => rfl⟩
    · rw [if_neg (fun h => e h.1), ih]
      constructor
      · rintro ⟨k, h2, h3⟩; exact ⟨k, by omega, h3⟩
      · rintro ⟨k, h2, h3⟩
        rcases Nat.lt_succ_iff_lt_or_eq.1 h2 with h4 | h4
        · exact ⟨k, h4, h3⟩
        · subst h4; omega
theorem IsEach.cnt {n : Nat} {l : List Int} (h : IsEach n l) : ∀ m, m ≤ n → cntT (dAt n l m) = m
  | 0, _ => by simp [dAt, exD, cntT_rep]
  | m + 1, hm => by
    have h1 := h.rng m (by omega)
    rw [dAt_succ (by rw [h.len]; omega), cntT_set (by rw [dAt_len]; omega) (h.new m (by omega)), h.cnt m (by omega)]
theorem IsEach.has {n : Nat} {l : List Int} (h : IsEach n l) {i : Nat} (hi : i < n) : ∃ k, k < n ∧ l.getD k 0 = (i : Nat) := by
  have := all_true (d := dAt n l n) (by rw [h.cnt n (Nat.le_refl _), dAt_len])
  rw [dAt_len] at this
  refine (dAt_mem h.rng h.len hi n (Nat.le_refl _)).1 ?_
  rw [this]; simp [List.getD_eq_getElem?_getD, hi]
theorem IsEach.inj {n : Nat} {l : List Int} (h : IsEach n l) {a b : Nat} (ha : a < b) (hb : b < n) : l.getD a 0 ≠ l.getD b 0 := by
  intro e
  have h1 := h.rng b hb
  have h2 := h.new b hb
  have h3 := (dAt_mem h.rng h.len (i := (l.getD b 0).toNat) (by omega) b (by omega)).2 ⟨a, ha, by omega⟩
  rw [h2] at h3; cases h3
theorem IsExt.each {n : Nat} {bel : List (List Int)} {l : List Int} (h : IsExt n bel l) : IsEach n l := ⟨h.len, h.rng, fun m hm => freeL_not (h.free m hm)⟩
end Go.AM

namespace Go.Proofs.X
open Go.AM Go
set_option maxRecDepth 100000
set_option maxHeartbeats 4000000
theorem each_r (n : Nat) (hn : n ≤ 512) (l : List Int) (hl : l.length ≤ 9223372036854775807) : Reads Tryd.prog 34 false [.int .i64 n, .rsl 1 (ints l)] (.bool (eachB n l)) := by
  have hz : List.replicate n [AV.bool false] = bools (dAt n l 0) := by simp [dAt, exD, bools]
  have hE : eachB n l = (decide (l.length = n) && eachGo n (List.replicate n false) l) := rfl
  refine Reads.body (rs := [.tmp 4]) Tryd.func34 rfl Tryd.ntmps34 rfl (by simp) ?_
  generalize hQr : retQ _ _ _ = Qr
  refine AW.seq fun K1 hK1 => ?_
  refine AW.regionK 0 (fun _ => none) [0, 1] [] ?_
  simp only [go_sem, reduceIte, reduceCtorEq, zA, zM, zE, zL, zD, zS, zP, zB, zI, zR, ints_len]
  repeat with_reducible refine cj ?_ ?_
  all_goals try first | omega
  refine hK1 _ _ _ ?_; clear hK1
  refine AW.seq fun K2 hK2 => ?_
  refine AW.seq fun K3 hK3 => ?_
  refine AW.regionK 0 (fun _ => none) [0, 1, 10] [] ?_
  simp only [go_sem, reduceIte, reduceCtorEq, zA, zM, zE, zL, zD, zS, zP, zB, zI, zR, ints_len]
  repeat with_reducible refine cj ?_ ?_
  all_goals try first | omega
  refine hK3 _ _ _ ?_; clear hK3
  refine AW.cond rfl (by simp only [go_sem, reduceIte, reduceCtorEq, zA, zM, zE, zL, zD, zS, zP, zB, zI, zR]) ?_ ?_
  · intro hb
    try simp only [hB, decide_eq_true_eq, decide_eq_false_iff_not] at hb
    refine AW.seq fun K4 hK4 => ?_
    refine AW.regionK 0 (fun _ => none) [4] [] ?_
    simp only [go_sem, reduceIte, reduceCtorEq, zA, zM, zE, zL, zD, zS, zP, zB, zI, zR, ints_len]
    repeat with_reducible refine cj ?_ ?_
    all_goals try first | omega
    refine hK4 _ _ _ ?_; clear hK4
    refine AW.ret ?_
    rw [← hQr]
    simp only [go_sem, reduceIte, reduceCtorEq, zA, zM, zE, zL, zD, zS, zP, zB, zI, zR, ints_len]
    exact Wk.of_eq (by rw [hE]; simp; omega)
  · intro hb
    try simp only [hB, decide_eq_true_eq, decide_eq_false_iff_not] at hb
    have hln : l.length = n := by omega
    refine AW.skip ?_
    refine hK2 _ _ _ ?_; clear hK2
    refine AW.seq fun K5 hK5 => ?_
    refine AW.regionK 0 (fun _ => none) [0, 1, 5] [12] ?_
    simp only [go_sem, reduceIte, reduceCtorEq, zA, zM, zE, zL, zD, zS, zP, zB, zI, zR, ints_len]
    repeat with_reducible refine cj ?_ ?_
    all_goals try first | omega
    refine hK5 _ _ _ ?_; clear hK5
    refine AW.seq fun K6 hK6 => ?_
    refine AW.seq fun K7 hK7 => ?_
    refine AW.regionK 0 (fun _ => none) [0, 1, 5, 6] [12] ?_
    simp only [go_sem, reduceIte, reduceCtorEq, zA, zM, zE, zL, zD, zS, zP, zB, zI, zR, ints_len]
    repeat with_reducible refine cj ?_ ?_
    all_goals try first | omega
    refine hK7 _ _ _ ?_; clear hK7
    refine AW.block ?_
    refine AW.loopE (fun mm ee ss kk => ∃ (k g v : Nat), n - k = mm ∧ ee = [(0, .int .i64 n), (1, .rsl 1 (ints l)), (5, .sl ⟨12, g, none⟩ 0 n none), (6, .int .i64 (k : Nat))] ∧ ss = [(12, some ⟨g, v, 1, bools (dAt n l k)⟩)] ∧ (k ≤ n ∧ eachGo n (List.replicate n false) (l.take k) = true)) ?_ ?_
    · refine ⟨_, 0, ?_, ?_, rfl, ?henv, ?hstore, ?hst⟩
      case henv =>
        repeat' (first | rfl | refine env_cons ?_ ?_ | refine st_cons ?_ ?_ ?_ ?_ | refine int_eq ?_ | refine bool_eq ?_ | refine rsl_eq ?_ | refine osl_eq ?_ | refine sl_eq ?_ ?_ ?_ | refine ptr_eq ?_ ?_ ?_ | refine agg_eq ?_ | refine es_cons ?_ ?_ | refine row_cons ?_ ?_)
        all_goals (first | (simp; done) | omega | (simp; omega))
      case hstore =>
        repeat' (first | rfl | refine env_cons ?_ ?_ | refine st_cons ?_ ?_ ?_ ?_ | refine int_eq ?_ | refine bool_eq ?_ | refine rsl_eq ?_ | refine osl_eq ?_ | refine sl_eq ?_ ?_ ?_ | refine ptr_eq ?_ ?_ ?_ | refine agg_eq ?_ | refine es_cons ?_ ?_ | refine row_cons ?_ ?_)
        all_goals (rw [hz])
      case hst =>
        exact ⟨Nat.zero_le _, rfl⟩
    rintro mm ee ss kk ⟨k, g, v, rfl, rfl, rfl, hI⟩
    generalize hQl1 : thenQ _ _ = Ql1
    obtain ⟨hk, hall⟩ := hI
    have hdl := dAt_len n l k
    have hbl := bools_len (dAt n l k)
    rw [hdl] at hbl
    refine AW.seq fun K8 hK8 => ?_
    refine AW.seq fun K9 hK9 => ?_
    refine AW.regionK 0 (fun _ => none) [0, 1, 5, 6, 15] [12] ?_
    simp only [go_sem, reduceIte, reduceCtorEq, zA, zM, zE, zL, zD, zS, zP, zB, zI, zR, ints_len]
    repeat with_reducible refine cj ?_ ?_
    all_goals try first | omega
    refine hK9 _ _ _ ?_; clear hK9
    refine AW.cond rfl (by simp only [go_sem, reduceIte, reduceCtorEq, zA, zM, zE, zL, zD, zS, zP, zB, zI, zR]) ?_ ?_
    · intro hb
      try simp only [hB, decide_eq_true_eq, decide_eq_false_iff_not] at hb
      have hk2 : k < n := by omega
      have hgx := ints_getD (l := l) (i := k) (by omega)
      have hds := dAt_succ (n := n) (l := l) (m := k) (by omega)
      have hgd := fun h => bools_getD (l := dAt n l k) (i := (l.getD k 0).toNat) h
      have htk : l.take (k + 1) = l.take k ++ [l.getD k 0] := by rw [List.take_add_one, List.getElem?_eq_getElem (by omega)]; simp [List.getD_eq_getElem?_getD, List.getElem?_eq_getElem (show k < l.length by omega)]
      have hap := eachGo_app n (l.take k) [l.getD k 0] (List.replicate n false)
      rw [← htk, hall, Bool.true_and] at hap
      have hdd : exD (List.replicate n false) (l.take k) = dAt n l k := rfl
      have hat := fun h => eachGo_at (n := n) (d := List.replicate n false) (l := l) h (m := k) (by omega)
      rw [hdd] at hap hat
      generalize hX : l.getD k 0 = x at *
      generalize hD : dAt n l k = d at *
      have hx3 : (0 ≤ x ∧ x < (n : Int)) ∨ x < 0 ∨ (n : Int) ≤ x := by omega
      refine AW.skip ?_
      refine hK8 _ _ _ ?_; clear hK8
      refine AW.seq fun K10 hK10 => ?_
      refine AW.block ?_
      refine AW.seq fun K11 hK11 => ?_
      refine AW.seq fun K12 hK12 => ?_
      have hD7 : ∀  (kk : Nat), K12 [(0, .int .i64 n), (1, .rsl 1 (ints l)), (5, .sl ⟨12, g, none⟩ 0 n none), (6, .int .i64 (k : Nat)), (39, .bool (!eaOk n d x))] [(12, some ⟨g, v, 1, bools d⟩)] kk := by
        intro  kk
        refine hK12 _ _ _ ?_; clear hK12
        refine AW.cond rfl (by simp only [go_sem, reduceIte, reduceCtorEq, zA, zM, zE, zL, zD, zS, zP, zB, zI, zR]) ?_ ?_
        · intro hb
          try simp only [hB, decide_eq_true_eq, decide_eq_false_iff_not] at hb
          have hf : eaOk n d x = false := by revert hb; simp
          have hE2 : eachB n l = false := by
            rw [hE]
            cases e : eachGo n (List.replicate n false) l with
            | false => simp
            | true => rw [hat e] at hf; cases hf
          refine AW.seq fun K14 hK14 => ?_
          refine AW.regionK 0 (fun _ => none) [4] [] ?_
          simp only [go_sem, reduceIte, reduceCtorEq, zA, zM, zE, zL, zD, zS, zP, zB, zI, zR, ints_len]
          repeat with_reducible refine cj ?_ ?_
          all_goals try first | omega
          refine hK14 _ _ _ ?_; clear hK14
          refine AW.ret ?_
          rw [← hQl1]
          rw [← hQr]
          simp only [go_sem, reduceIte, reduceCtorEq, zA, zM, zE, zL, zD, zS, zP, zB, zI, zR, ints_len]
          exact Wk.of_eq (by rw [hE2])
        · intro hb
          try simp only [hB, decide_eq_true_eq, decide_eq_false_iff_not] at hb
          have hf : eaOk n d x = true := by revert hb; simp
          have hxr : 0 ≤ x ∧ x < (n : Int) := by
            unfold eaOk at hf
            simp only [Bool.and_eq_true, decide_eq_true_eq] at hf
            exact hf.1
          refine AW.skip ?_
          refine hK11 _ _ _ ?_; clear hK11
          refine AW.regionK 0 (fun _ => none) [0, 1, 5, 6] [12] ?_
          simp only [go_sem, reduceIte, reduceCtorEq, zA, zM, zE, zL, zD, zS, zP, zB, zI, zR, ints_len, hgx, hbl, bools_upd, ← hds]
          repeat with_reducible refine cj ?_ ?_
          all_goals try first | omega
          refine hK10 _ _ _ ?_; clear hK10
          refine AW.regionK 0 (fun _ => none) [0, 1, 5, 6] [12] ?_
          simp only [go_sem, reduceIte, reduceCtorEq, zA, zM, zE, zL, zD, zS, zP, zB, zI, zR, ints_len]
          repeat with_reducible refine cj ?_ ?_
          all_goals try first | omega
          rw [← hQl1]
          change Exists _
          refine ⟨_, ?hm, k + 1, ?_, ?_, rfl, ?henv, ?hstore, ?hst⟩
          case henv =>
            repeat' (first | rfl | refine env_cons ?_ ?_ | refine st_cons ?_ ?_ ?_ ?_ | refine int_eq ?_ | refine bool_eq ?_ | refine rsl_eq ?_ | refine osl_eq ?_ | refine sl_eq ?_ ?_ ?_ | refine ptr_eq ?_ ?_ ?_ | refine agg_eq ?_ | refine es_cons ?_ ?_ | refine row_cons ?_ ?_)
            all_goals (first | (simp; done) | omega | (simp; omega))
          case hstore =>
            repeat' (first | rfl | refine env_cons ?_ ?_ | refine st_cons ?_ ?_ ?_ ?_ | refine int_eq ?_ | refine bool_eq ?_ | refine rsl_eq ?_ | refine osl_eq ?_ | refine sl_eq ?_ ?_ ?_ | refine ptr_eq ?_ ?_ ?_ | refine agg_eq ?_ | refine es_cons ?_ ?_ | refine row_cons ?_ ?_)
            all_goals (first | (simp; done) | omega | (simp; omega))
          case hst =>
            exact ⟨by omega, by rw [hap]; simp [eachGo, hf]⟩
          case hm => omega
      rcases hx3 with hxr | hxr | hxr
      · -- region 7
        have hgx2 := hgd (by omega)
        have hea : (decide (x < 0) || decide ((n : Int) ≤ x) || d.getD x.toNat false) = !eaOk n d x := by
          unfold eaOk
          simp only [show ¬ x < 0 by omega, show ¬ (n : Int) ≤ x by omega, hxr.1, hxr.2, decide_true, decide_false, Bool.or_false, Bool.false_or, Bool.and_true, Bool.true_and, Bool.not_not]
        rw [← hea] at hD7
        refine AW.regionK 0 (fun _ => none) [0, 1, 5, 6, 39] [12] ?_
        simp only [go_sem, reduceIte, reduceCtorEq, zA, zM, zE, zL, zD, zS, zP, zB, zI, zR, ints_len, hgx, hbl, hgx2]
        repeat with_reducible refine cj ?_ ?_
        all_goals try first | (first | (simp only [Bool.or_eq_true, decide_eq_true_eq]; omega) | (intro hh; refine ⟨hh, hh, ?_, ?_⟩ <;> (simp only [Bool.or_eq_false_iff, decide_eq_false_iff_not] at hh; omega))) | (intros; (repeat' apply And.intro) <;> first | assumption | (first | (simp only [Bool.or_eq_true, decide_eq_true_eq]; omega) | (intro hh; refine ⟨hh, hh, ?_, ?_⟩ <;> (simp only [Bool.or_eq_false_iff, decide_eq_false_iff_not] at hh; omega)))) | omega | (intro hgd; exact absurd hgd (by decide)) | rfl | (simp only [go_sem, reduceIte, reduceCtorEq, zA, zM, zE, zL, zD, zS, zP, zB, zI, zR, ints_len, hgx, hbl, hgx2]; done) | (intro _hgd; simp_all [go_sem]; done)
        exact hD7 _
      · -- region 7
        have hgx2 := hgd (by omega)
        have hea : (decide (x < 0) || decide ((n : Int) ≤ x) || d.getD x.toNat false) = !eaOk n d x := by
          unfold eaOk
          simp only [hxr, show ¬ 0 ≤ x by omega, decide_true, decide_false, Bool.true_or, Bool.false_and, Bool.not_false]
        rw [← hea] at hD7
        refine AW.regionK 0 (fun _ => none) [0, 1, 5, 6, 39] [12] ?_
        simp only [go_sem, reduceIte, reduceCtorEq, zA, zM, zE, zL, zD, zS, zP, zB, zI, zR, ints_len, hgx, hbl, hgx2]
        repeat with_reducible refine cj ?_ ?_
        all_goals try first | (first | (simp only [Bool.or_eq_true, decide_eq_true_eq]; omega) | (intro hh; refine ⟨hh, hh, ?_, ?_⟩ <;> (simp only [Bool.or_eq_false_iff, decide_eq_false_iff_not] at hh; omega))) | (intros; (repeat' apply And.intro) <;> first | assumption | (first | (simp only [Bool.or_eq_true, decide_eq_true_eq]; omega) | (intro hh; refine ⟨hh, hh, ?_, ?_⟩ <;> (simp only [Bool.or_eq_false_iff, decide_eq_false_iff_not] at hh; omega)))) | omega | (intro hgd; exact absurd hgd (by decide)) | rfl | (simp only [go_sem, reduceIte, reduceCtorEq, zA, zM, zE, zL, zD, zS, zP, zB, zI, zR, ints_len, hgx, hbl, hgx2]; done) | (intro _hgd; simp_all [go_sem]; done)
        exact hD7 _
      · -- region 7
        have hgx2 : (bools d).getD x.toNat [] = [] := by rw [List.getD_eq_getElem?_getD, List.getElem?_eq_none (by omega)]; rfl
        have hea : true = !eaOk n d x := by
          unfold eaOk
          simp only [show ¬ x < (n : Int) by omega, decide_false, Bool.and_false, Bool.false_and, Bool.not_false]
        rw [← hea] at hD7
        refine AW.regionK 0 (fun _ => none) [0, 1, 5, 6, 39] [12] ?_
        simp only [go_sem, reduceIte, reduceCtorEq, zA, zM, zE, zL, zD, zS, zP, zB, zI, zR, ints_len, hgx, hbl, hgx2]
        repeat with_reducible refine cj ?_ ?_
        all_goals try first | (first | (simp only [Bool.or_eq_true, decide_eq_true_eq]; omega) | (intro hh; refine ⟨hh, hh, ?_, ?_⟩ <;> (simp only [Bool.or_eq_false_iff, decide_eq_false_iff_not] at hh; omega))) | (intros; (repeat' apply And.intro) <;> first | assumption | (first | (simp only [Bool.or_eq_true, decide_eq_true_eq]; omega) | (intro hh; refine ⟨hh, hh, ?_, ?_⟩ <;> (simp only [Bool.or_eq_false_iff, decide_eq_false_iff_not] at hh; omega)))) | omega | (intro hgd; exact absurd hgd (by decide)) | rfl | (simp only [go_sem, reduceIte, reduceCtorEq, zA, zM, zE, zL, zD, zS, zP, zB, zI, zR, ints_len, hgx, hbl, hgx2]; done) | (intro _hgd; simp_all [go_sem]; done)
        exact hD7 _
    · intro hb
      try simp only [hB, decide_eq_true_eq, decide_eq_false_iff_not] at hb
      have hkn : k = n := by omega
      rw [hkn, List.take_of_length_le (by omega)] at hall
      refine AW.keep [] [] ?_
      try simp only [go_sem, reduceIte, reduceCtorEq, zA, zM, zE, zL, zD, zS, zP, zB, zI, zR]
      refine AW.exit ?_
      rw [← hQl1]
      refine hK6 _ _ _ ?_; clear hK6
      refine AW.seq fun K15 hK15 => ?_
      refine AW.regionK 0 (fun _ => none) [4] [] ?_
      simp only [go_sem, reduceIte, reduceCtorEq, zA, zM, zE, zL, zD, zS, zP, zB, zI, zR, ints_len]
      repeat with_reducible refine cj ?_ ?_
      all_goals try first | omega
      refine hK15 _ _ _ ?_; clear hK15
      refine AW.ret ?_
      rw [← hQr]
      simp only [go_sem, reduceIte, reduceCtorEq, zA, zM, zE, zL, zD, zS, zP, zB, zI, zR, ints_len]
      exact Wk.of_eq (by rw [hE, hall, hln]; simp)
end Go.Proofs.X

namespace Go.Proofs.X
open Go.AM Go
set_option maxRecDepth 100000
set_option maxHeartbeats 4000000
end Go.Proofs.X

namespace Go.Proofs.X
open Go.AM Go
set_option maxRecDepth 100000
set_option maxHeartbeats 4000000
end Go.Proofs.X

namespace Go.Proofs.X
open Go.AM Go
set_option maxRecDepth 100000
set_option maxHeartbeats 4000000
theorem row_f (w : Int) : Reads Tryd.prog 39 true [.int .u64 w] (.agg [.int .i64 3, .rsl 1 (words [w])]) := by
  refine Reads.bodyF (rs := [.cell 2 47]) Tryd.func39 rfl Tryd.ntmps39 rfl (by simp) ?_
  generalize hQr : retQ _ _ _ = Qr
  refine AW.seq fun K1 hK1 => ?_
  refine AW.regionK 0 (fun _ => none) [0, 2] [2] ?_
  simp only [go_sem, reduceIte, reduceCtorEq, zA, zM, zE, zL, zD, zS, zP, zB, zI, zR]
  repeat with_reducible refine cj ?_ ?_
  all_goals try first | omega
  refine hK1 _ _ _ ?_; clear hK1
  refine AW.seq fun K2 hK2 => ?_
  refine AW.regionK 0 (fun _ => none) [2] [2, 4] ?_
  simp only [go_sem, reduceIte, reduceCtorEq, zA, zM, zE, zL, zD, zS, zP, zB, zI, zR]
  repeat with_reducible refine cj ?_ ?_
  all_goals try first | omega
  refine hK2 _ _ _ ?_; clear hK2
  refine AW.ret ?_
  rw [← hQr]
  simp only [go_sem, reduceIte, reduceCtorEq, zA, zM, zE, zL, zD, zS, zP, zB, zI, zR]
  exact Wk.refl _
def t3 : List (List Bool) := [[false, false, false], [false, false, false], [true, false, false]]
theorem t3_sq : Sq 3 t3 := ⟨rfl, by decide⟩
theorem t3_po : poB 3 t3 = true := by decide +kernel
theorem t3_least : leastL 3 t3 = [1, 2, 0] := by decide +kernel
theorem t3_cnt : cntL (belL 3 t3) 3 3 ≤ 5000 := by decide +kernel
theorem t3_cE : cE (belL 3 t3) 3 3 (List.replicate 3 false) = 3 := by decide +kernel
theorem t3_all : allW 3 t3 = 3 := by rw [allW_eq, t3_cE]; rfl
theorem t3_next : nextK (belL 3 t3) 3 [1, 2, 0] 3 = some [2, 0, 1] := by decide +kernel
theorem t3_x1 : extB 3 (belL 3 t3) [1, 2, 0] = true := by decide +kernel
theorem t3_x2 : extB 3 (belL 3 t3) [2, 1, 0] = true := by decide +kernel
theorem t3_rank : rankC (belL 3 t3) 3 [2, 1, 0] 3 = 2 := by decide +kernel
theorem t3_tab : tabR t3 = [[.int .i64 3, .rsl 1 (words [0])], [.int .i64 3, .rsl 1 (words [0])], [.int .i64 3, .rsl 1 (words [1])]] := by
  have h0 : setW [false, false, false] 3 = [0] := by decide +kernel
  have h1 : setW [true, false, false] 3 = [1] := by decide +kernel
  simp [tabR, t3, rowB, h0, h1]
theorem awake_r : Reads Tryd.prog 11 false [] (.bool true) := by
  have hr0 := row_f 0
  have hr1 := row_f 1
  have h1 := least_g 3 t3 t3_sq (by decide) t3_po
  have h2 := count_u 3 t3 t3_sq (by decide) t3_po t3_cnt (by rw [t3_all]; decide)
  have h3 := next_f 3 t3 t3_sq (by decide) t3_po [1, 2, 0] t3_x1
  have h4 := Reads.flat (rank_u 3 t3 t3_sq (by decide) t3_po t3_cnt (by rw [t3_all]; decide) [2, 1, 0] t3_x2) rfl
  have h5 := Reads.flat (eqi_refl [1, 2, 0] (by decide)) rfl
  have h6 := Reads.flat (eqi_refl [2, 0, 1] (by decide)) rfl
  rw [t3_least] at h1
  rw [t3_all] at h2
  rw [t3_next] at h3
  rw [t3_rank] at h4
  unfold relB nextV at *
  rw [t3_tab] at h1 h2 h3 h4
  simp only [ints, words, List.map_cons, List.map_nil] at *
  refine Reads.body (rs := [.tmp 0]) Tryd.func11 rfl Tryd.ntmps11 rfl (by simp) ?_
  generalize hQr : retQ _ _ _ = Qr
  refine AW.seq fun K1 hK1 => ?_
  refine AW.regionK 0 (fun _ => none) [] [1] ?_
  simp only [go_sem, reduceIte, reduceCtorEq, zA, zM, zE, zL, zD, zS, zP, zB, zI, zR]
  repeat with_reducible refine cj ?_ ?_
  all_goals try first | omega
  refine hK1 _ _ _ ?_; clear hK1
  refine AW.seq fun K2 hK2 => ?_
  refine AW.regionK 0 (fun ii => if ii = 0 then some (.reads true (.agg [.int .i64 3, .rsl 1 [[.int .u64 0]]])) else if ii = 1 then some (.reads true (.agg [.int .i64 3, .rsl 1 [[.int .u64 0]]])) else if ii = 2 then some (.reads true (.agg [.int .i64 3, .rsl 1 [[.int .u64 1]]])) else none) [1] [1, 13] ?_
  simp only [go_sem, reduceIte, reduceCtorEq, zA, zM, zE, zL, zD, zS, zP, zB, zI, zR]
  repeat with_reducible refine cj ?_ ?_
  all_goals try first | (first | exact hr0 | exact hr1) | omega | exact ent (by kernel_rfl)
  refine hK2 _ _ _ ?_; clear hK2
  refine AW.frzCellK [13] 5 1 0 0 ?_
  simp only [go_sem, reduceIte, zE]
  refine ⟨rfl, by decide, by decide, by decide, ?_⟩
  refine AW.keep [1] [1] ?_
  simp only [go_sem, reduceIte, zE]
  refine AW.seq fun K3 hK3 => ?_
  refine AW.regionK 0 (fun ii => if ii = 1 then some (.reads false (.tup [.rsl 1 [[.int .i64 1], [.int .i64 2], [.int .i64 0]], .int .i64 0])) else none) [1, 2, 3] [1, 13] ?_
  simp only [go_sem, reduceIte, reduceCtorEq, zA, zM, zE, zL, zD, zS, zP, zB, zI, zR]
  repeat with_reducible refine cj ?_ ?_
  all_goals try first | (exact h1) | omega | exact ent (by kernel_rfl)
  refine hK3 _ _ _ ?_; clear hK3
  refine AW.seq fun K4 hK4 => ?_
  refine AW.regionK 0 (fun ii => if ii = 1 then some (.reads false (.tup [.int .i64 3, .int .i64 0])) else none) [1, 2, 3, 4, 5] [1, 13] ?_
  simp only [go_sem, reduceIte, reduceCtorEq, zA, zM, zE, zL, zD, zS, zP, zB, zI, zR]
  repeat with_reducible refine cj ?_ ?_
  all_goals try first | (exact h2) | omega | exact ent (by kernel_rfl)
  refine hK4 _ _ _ ?_; clear hK4
  refine AW.seq fun K5 hK5 => ?_
  refine AW.regionK 0 (fun ii => if ii = 2 then some (.reads true (.tup [.rsl 1 [[.int .i64 2], [.int .i64 0], [.int .i64 1]], .int .i64 0])) else none) [1, 2, 3, 4, 5, 6, 7] [1, 13] ?_
  simp only [go_sem, reduceIte, reduceCtorEq, zA, zM, zE, zL, zD, zS, zP, zB, zI, zR]
  repeat with_reducible refine cj ?_ ?_
  all_goals try first | (exact h3) | omega | exact ent (by kernel_rfl)
  refine hK5 _ _ _ ?_; clear hK5
  refine AW.seq fun K6 hK6 => ?_
  refine AW.regionK 0 (fun ii => if ii = 2 then some (.reads true (.tup [.int .i64 ((2 : Nat) : Int), .int .i64 0])) else none) [2, 3, 4, 5, 6, 7, 8, 9] [1] ?_
  simp only [go_sem, reduceIte, reduceCtorEq, zA, zM, zE, zL, zD, zS, zP, zB, zI, zR]
  repeat with_reducible refine cj ?_ ?_
  all_goals try first | (exact h4) | omega | exact ent (by kernel_rfl)
  refine hK6 _ _ _ ?_; clear hK6
  refine AW.seq fun K7 hK7 => ?_
  refine AW.regionK 0 (fun ii => if ii = 2 then some (.reads true (.bool true)) else if ii = 18 then some (.reads true (.bool true)) else none) [0] [1] ?_
  simp only [go_sem, reduceIte, reduceCtorEq, zA, zM, zE, zL, zD, zS, zP, zB, zI, zR]
  repeat with_reducible refine cj ?_ ?_
  all_goals try first | (first | exact h5 | exact h6 | exact fun _ => h6) | (intros; (repeat' apply And.intro) <;> first | assumption | (first | exact h5 | exact h6 | exact fun _ => h6)) | omega | exact ent (by kernel_rfl) | (intro hgd; exact absurd hgd (by decide)) | rfl | (simp only [go_sem, reduceIte, reduceCtorEq, zA, zM, zE, zL, zD, zS, zP, zB, zI, zR]; done) | (intro _hgd; simp_all [go_sem]; done)
  refine hK7 _ _ _ ?_; clear hK7
  refine AW.ret ?_
  rw [← hQr]
  simp only [go_sem, reduceIte, reduceCtorEq, zA, zM, zE, zL, zD, zS, zP, zB, zI, zR]
  exact Wk.of_eq (by simp)
end Go.Proofs.X

namespace Go.Proofs.X
open Go.AM Go
set_option maxRecDepth 100000
set_option maxHeartbeats 4000000
end Go.Proofs.X

/- The reference's way to count: from an ideal upwards, with the ways to each one. -/
namespace Go.AM
structure RStE where
  nx : List (List Bool)
  sm : List Int
  bg : Bool
def capM (v : Int) : Int := if 1125899906842624 < v then 1125899906842625 else v
def rNew (st : RStE) (y : List Bool) : RStE := if y ∈ st.nx then st else ⟨st.nx ++ [y], st.sm ++ [0], st.bg⟩
def rPut (st : RStE) (a : Nat) (w : Int) : RStE := ⟨st.nx, st.sm.set a (capM (st.sm.getD a 0 + w)), st.bg || decide (1125899906842624 < st.sm.getD a 0 + w)⟩
def rAdd (w : Int) (st : RStE) (y : List Bool) : RStE := rPut (rNew st y) ((rNew st y).nx.idxOf y) w
def rS (bel : List (List Int)) (S : List Bool) (w : Int) (m : Nat) (st : RStE) : RStE := fr (freeL bel S) (fun st x => rAdd w st (S.set x true)) m st
def rFold (bel : List (List Int)) (n : Nat) (L : List (List Bool × Int)) (st : RStE) : RStE := L.foldl (fun st p => rS bel p.1 p.2 n st) st
structure ROk (st : RStE) : Prop where
  len : st.nx.length = st.sm.length
  rng : ∀ v ∈ st.sm, 0 ≤ v ∧ v ≤ 1125899906842625
  cap : st.bg = false → ∀ v ∈ st.sm, v ≤ 1125899906842624
theorem ROk.new {st : RStE} (h : ROk st) (y : List Bool) : ROk (rNew st y) := by
  unfold rNew
  split
  · exact h
  · refine ⟨by simp [h.len], fun v hv => ?_, fun hb v hv => ?_⟩
    · rcases List.mem_append.1 hv with e | e
      · exact h.rng v e
      · rw [List.mem_singleton.1 e]; exact ⟨by decide, by decide⟩
    · rcases List.mem_append.1 hv with e | e
      · exact h.cap hb v e
      · rw [List.mem_singleton.1 e]; decide
theorem ROk.getD {st : RStE} (h : ROk st) (a : Nat) : 0 ≤ st.sm.getD a 0 ∧ st.sm.getD a 0 ≤ 1125899906842625 := by
  by_cases ha : a < st.sm.length
  · rw [List.getD_eq_getElem?_getD, List.getElem?_eq_getElem ha]
    exact h.rng _ (List.getElem_mem ha)
  · rw [List.getD_eq_getElem?_getD, List.getElem?_eq_none (by omega)]
    exact ⟨by decide, by decide⟩
theorem ROk.put {st : RStE} (h : ROk st) (a : Nat) {w : Int} (hw : 0 ≤ w) : ROk (rPut st a w) := by
  refine ⟨by simp [rPut, h.len], fun v hv => ?_, fun hb v hv => ?_⟩
  · rcases List.mem_or_eq_of_mem_set hv with e | e
    · exact h.rng v e
    · have := h.getD a
      rw [e]; unfold capM; split <;> omega
  · simp only [rPut, Bool.or_eq_false_iff, decide_eq_false_iff_not] at hb
    rcases List.mem_or_eq_of_mem_set hv with e | e
    · exact h.cap hb.1 v e
    · rw [e]; unfold capM; rw [if_neg hb.2]; omega
theorem ROk.add {st : RStE} (h : ROk st) (y : List Bool) {w : Int} (hw : 0 ≤ w) : ROk (rAdd w st y) := (h.new y).put _ hw
theorem ROk.s {bel : List (List Int)} {S : List Bool} {w : Int} (hw : 0 ≤ w) : ∀ (m : Nat) {st : RStE}, ROk st → ROk (rS bel S w m st)
  | 0, _, h => h
  | m + 1, st, h => by
    have ih := ROk.s (bel := bel) (S := S) hw m h
    unfold rS at *
    cases hf : freeL bel S m with
    | true => rw [fr_succ _ hf]; exact ih.add _ hw
    | false => rw [fr_miss _ hf]; exact ih
theorem ROk.fold {bel : List (List Int)} {n : Nat} : ∀ {L : List (List Bool × Int)} {st : RStE}, (∀ p ∈ L, 0 ≤ p.2) → ROk st → ROk (rFold bel n L st)
  | [], _, _, h => h
  | p :: L, st, hL, h => by
    have := ROk.fold (bel := bel) (n := n) (L := L) (fun q hq => hL q (List.mem_cons_of_mem _ hq)) (h.s (bel := bel) (S := p.1) (hL p List.mem_cons_self) n)
    exact this
/-! ### What the sums say. -/
end Go.AM

/- The reference's count is the number of ways. -/
namespace Go.AM
theorem ROk.empty (b : Bool) : ROk ⟨[], [], b⟩ := ⟨rfl, fun v hv => (by cases hv), fun _ v hv => (by cases hv)⟩
end Go.AM

namespace Go.Proofs.X
open Go.AM Go
set_option maxRecDepth 100000
set_option maxHeartbeats 8000000
@[go_sem] theorem vwc_rowsR (s : Store) (d : Nat) (t : List (List Bool)) : (rowsR t).map (fun cs => cs.map (vwc s d)) = rowsR t := by simp [rowsR, vwc_rsl]
end Go.Proofs.X

namespace Go.Proofs.X
open Go.AM Go
set_option maxRecDepth 100000
set_option maxHeartbeats 4000000
end Go.Proofs.X

/- Each rank is the rank of an extension. -/
namespace Go.AM
theorem getD_left {l : List Int} {x : Int} {q : Nat} (h : q < l.length) : (l ++ [x]).getD q 0 = l.getD q 0 := by
  rw [List.getD_eq_getElem?_getD, List.getElem?_append_left h, ← List.getD_eq_getElem?_getD]
theorem getD_last {l : List Int} {x : Int} : (l ++ [x]).getD l.length 0 = x := by simp [List.getD_eq_getElem?_getD]
theorem dAt_left {n : Nat} {l : List Int} {x : Int} {q : Nat} (h : q ≤ l.length) : dAt n (l ++ [x]) q = dAt n l q := by
  unfold dAt; rw [List.take_append_of_le_length h]
structure IsPre (n : Nat) (bel : List (List Int)) (l : List Int) : Prop where
  le : l.length ≤ n
  rng : ∀ m, m < l.length → 0 ≤ l.getD m 0 ∧ l.getD m 0 < (n : Int)
  free : ∀ m, m < l.length → freeL bel (dAt n l m) (l.getD m 0).toNat = true
theorem IsPre.snoc {n : Nat} {bel : List (List Int)} {l : List Int} (h : IsPre n bel l) {x : Nat} (hl : l.length < n) (hx : x < n) (hf : freeL bel (dAt n l l.length) x = true) : IsPre n bel (l ++ [((x : Nat) : Int)]) := by
  refine ⟨by simp; omega, fun m hm => ?_, fun m hm => ?_⟩
  · simp only [List.length_append, List.length_cons, List.length_nil] at hm
    by_cases e : m < l.length
    · rw [getD_left e]; exact h.rng m e
    · rw [show m = l.length by omega, getD_last]; omega
  · simp only [List.length_append, List.length_cons, List.length_nil] at hm
    by_cases e : m < l.length
    · rw [getD_left e, dAt_left (by omega)]; exact h.free m e
    · rw [show m = l.length by omega, getD_last, dAt_left (Nat.le_refl _)]; exact hf
theorem IsPre.ext {n : Nat} {bel : List (List Int)} {l : List Int} (h : IsPre n bel l) (hl : l.length = n) : IsExt n bel l := ⟨hl, fun m hm => h.rng m (by omega), fun m hm => h.free m (by omega)⟩
end Go.AM

namespace Go.Proofs.X
open Go.AM Go
set_option maxRecDepth 100000
set_option maxHeartbeats 4000000
end Go.Proofs.X

namespace Go.Proofs.X
open Go.AM Go
set_option maxRecDepth 100000
set_option maxHeartbeats 4000000
end Go.Proofs.X

namespace Go.Proofs.X
open Go.AM Go
set_option maxRecDepth 100000
set_option maxHeartbeats 4000000
end Go.Proofs.X

/- The next extension has the next rank. -/
namespace Go.AM
theorem IsExt.pre {n : Nat} {bel : List (List Int)} {l : List Int} (h : IsExt n bel l) (m : Nat) (hm : m ≤ n) : IsPre n bel (l.take m) := by
  have hl : (l.take m).length = m := by simp [h.len, hm]
  have hg : ∀ q, q < m → (l.take m).getD q 0 = l.getD q 0 := fun q hq => by rw [List.getD_eq_getElem?_getD, List.getElem?_take_of_lt hq, ← List.getD_eq_getElem?_getD]
  have hd : ∀ q, q ≤ m → dAt n (l.take m) q = dAt n l q := fun q hq => by unfold dAt; rw [List.take_take, Nat.min_eq_left hq]
  refine ⟨by omega, fun q hq => ?_, fun q hq => ?_⟩
  · rw [hg q (by omega)]; exact h.rng q (by omega)
  · rw [hg q (by omega), hd q (by omega)]; exact h.free q (by omega)
/-! ### Small orders. -/
end Go.AM

namespace Go.Proofs.X
open Go.AM Go
set_option maxRecDepth 100000
set_option maxHeartbeats 4000000
end Go.Proofs.X

/- An order with one more pair. -/
namespace Go.AM
end Go.AM

namespace Go.Proofs.X
open Go.AM Go
set_option maxRecDepth 100000
set_option maxHeartbeats 4000000
end Go.Proofs.X

namespace Go.Proofs.X
open Go.AM Go
end Go.Proofs.X

/- The order that lists have in common. -/
namespace Go.AM
def plI (n : Nat) (l : List Int) : Nat → List Int
  | 0 => List.replicate n 0
  | m + 1 => (plI n l m).set (l.getD m 0).toNat ((m : Int) + 1)
theorem plI_len (n : Nat) (l : List Int) : ∀ m, (plI n l m).length = n
  | 0 => by simp [plI]
  | m + 1 => by simp [plI, plI_len n l m]
theorem getD_setI (b : List Int) (i j : Nat) (x : Int) : (b.set i x).getD j 0 = if i = j ∧ i < b.length then x else b.getD j 0 := by
  rw [List.getD_eq_getElem?_getD, List.getElem?_set]
  by_cases h : i = j
  · subst h
    by_cases h2 : i < b.length
    · simp [h2]
    · simp [h2, List.getD_eq_getElem?_getD]
  · simp [h, List.getD_eq_getElem?_getD]
theorem plI_iff {n : Nat} {l : List Int} (hl : l.length = n) {i : Nat} (hi : i < n) : ∀ m, m ≤ n → (((plI n l m).getD i 0 ≠ 0 ↔ (dAt n l m).getD i false = true) ∧ 0 ≤ (plI n l m).getD i 0 ∧ (plI n l m).getD i 0 ≤ n)
  | 0, _ => by
    have h1 : (plI n l 0).getD i 0 = 0 := by simp [plI, List.getD_eq_getElem?_getD, hi]
    have h2 : (dAt n l 0).getD i false = false := by simp [dAt, exD, List.getD_eq_getElem?_getD, hi]
    rw [h1, h2]; simp
  | m + 1, hm => by
    obtain ⟨h1, h2, h3⟩ := plI_iff hl hi m (by omega)
    rw [dAt_succ (by omega), getD_setB]
    show (((plI n l m).set (l.getD m 0).toNat ((m : Int) + 1)).getD i 0 ≠ 0 ↔ _) ∧ 0 ≤ ((plI n l m).set (l.getD m 0).toNat ((m : Int) + 1)).getD i 0 ∧ ((plI n l m).set (l.getD m 0).toNat ((m : Int) + 1)).getD i 0 ≤ n
    rw [getD_setI, plI_len, dAt_len]
    by_cases e : (l.getD m 0).toNat = i ∧ (l.getD m 0).toNat < n
    · rw [if_pos e, if_pos e]; simp; omega
    · rw [if_neg e, if_neg e]; exact ⟨h1, h2, h3⟩
theorem plI_at {n : Nat} {l : List Int} (hE : IsEach n l) : ∀ m, m ≤ n → ∀ k, k < m → (plI n l m).getD (l.getD k 0).toNat 0 = (k : Int) + 1
  | 0, _, k, hk => by omega
  | m + 1, hm, k, hk => by
    have hr := hE.rng m (by omega)
    have hrk := hE.rng k (by omega)
    show ((plI n l m).set (l.getD m 0).toNat ((m : Int) + 1)).getD (l.getD k 0).toNat 0 = _
    rw [getD_setI, plI_len]
    by_cases e : k = m
    · subst e; rw [if_pos ⟨rfl, by omega⟩]
    · have hne := hE.inj (a := k) (b := m) (by omega) (by omega)
      rw [if_neg (fun h => hne (by omega))]
      exact plI_at hE m (by omega) k (by omega)
def gtA (i j : Nat) (at_ : List Int) : Bool := decide (at_.getD j 0 < at_.getD i 0)
def meetF (n : Nat) (ls : List (List Int)) (i j : Nat) : Bool := !decide (i = j) && !(ls.map fun l => plI n l n).any (gtA i j)
def meetT (n : Nat) (ls : List (List Int)) : List (List Bool) := tabF n (meetF n ls)
/-- The place of i in l, as the reference finds it. -/
def refA (l : List Int) (i : Int) : Nat → Int
  | 0 => 0
  | m + 1 => if l.getD m 0 = i then (m : Nat) else refA l i m
def bfA (n : Nat) (i j : Nat) (l : List Int) : Bool := decide (refA l i n < refA l j n)
def meetR (n : Nat) (ls : List (List Int)) (i j : Nat) : Bool := !decide (i = j) && ls.all (bfA n i j)
theorem refA_at {n : Nat} {l : List Int} (hE : IsEach n l) {k : Nat} {i : Int} (hk : l.getD k 0 = i) : ∀ m, m ≤ n → k < m → refA l i m = (k : Nat)
  | 0, _, h => by omega
  | m + 1, hm, h => by
    unfold refA
    by_cases e : k = m
    · subst e; rw [if_pos hk]
    · have hne := hE.inj (a := k) (b := m) (by omega) (by omega)
      rw [if_neg (fun h => hne (by rw [hk, h]))]
      exact refA_at hE hk m (by omega) (by omega)
theorem atv_ref {n : Nat} {l : List Int} (hE : IsEach n l) {i : Nat} (hi : i < n) : (plI n l n).getD i 0 = refA l (i : Nat) n + 1 ∧ ∃ k : Nat, k < n ∧ l.getD k 0 = (i : Nat) ∧ refA l (i : Nat) n = (k : Nat) := by
  obtain ⟨k, hk, he⟩ := hE.has hi
  have h1 := plI_at hE n (Nat.le_refl _) k hk
  rw [he, Int.toNat_natCast] at h1
  have h2 := refA_at hE he n (Nat.le_refl _) hk
  exact ⟨by rw [h1, h2], k, hk, he, h2⟩
theorem meet_eq {n : Nat} {ls : List (List Int)} (h : ∀ l ∈ ls, IsEach n l) {i j : Nat} (hi : i < n) (hj : j < n) : meetF n ls i j = meetR n ls i j := by
  unfold meetF meetR
  by_cases e : i = j
  · subst e; simp
  · congr 1
    rw [Bool.eq_iff_iff]
    simp only [Bool.not_eq_true', List.any_eq_false, List.mem_map, List.all_eq_true, bfA, decide_eq_true_eq, gtA]
    constructor
    · intro hh l hl
      have h1 := hh (plI n l n) ⟨l, hl, rfl⟩
      obtain ⟨a1, k1, b1, c1, d1⟩ := atv_ref (h l hl) hi
      obtain ⟨a2, k2, b2, c2, d2⟩ := atv_ref (h l hl) hj
      have hne : k1 ≠ k2 := fun e2 => e (by subst e2; omega)
      omega
    · rintro hh x ⟨l, hl, rfl⟩
      have h1 := hh l hl
      obtain ⟨a1, _⟩ := atv_ref (h l hl) hi
      obtain ⟨a2, _⟩ := atv_ref (h l hl) hj
      omega
theorem meet_po {n : Nat} {ls : List (List Int)} (hne : ls ≠ []) (h : ∀ l ∈ ls, IsEach n l) : IsPo n (meetT n ls) := by
  obtain ⟨l0, hl0⟩ : ∃ l, l ∈ ls := by cases ls with | nil => exact absurd rfl hne | cons a _ => exact ⟨a, List.mem_cons_self⟩
  refine ⟨fun i hi => ?_, fun i j k hi hj hk h1 h2 => ?_⟩
  · unfold meetT; rw [atT_tabF hi hi]; simp [meetF]
  · unfold meetT at *
    rw [atT_tabF hi hj, meet_eq h hi hj] at h1
    rw [atT_tabF hj hk, meet_eq h hj hk] at h2
    rw [atT_tabF hi hk, meet_eq h hi hk]
    unfold meetR at *
    simp only [Bool.and_eq_true, Bool.not_eq_true', decide_eq_false_iff_not, List.all_eq_true, bfA, decide_eq_true_eq] at *
    refine ⟨fun e => ?_, fun l hl => Int.lt_trans (h1.2 l hl) (h2.2 l hl)⟩
    subst e
    have := h1.2 l0 hl0
    have := h2.2 l0 hl0
    omega
end Go.AM

namespace Go.Proofs.X
open Go.AM Go
set_option maxRecDepth 100000
set_option maxHeartbeats 4000000
def lon (x : List Int) : Bool := decide ((20 : Int) < x.length)
theorem lon_r (x : List Int) : Reads Tryd.prog 31 false [.rsl 1 (ints x)] (.bool (lon x)) := by
  refine Reads.body (rs := [.tmp 2]) Tryd.func31 rfl Tryd.ntmps31 rfl (by simp) ?_
  generalize hQr : retQ _ _ _ = Qr
  refine AW.seq fun K1 hK1 => ?_
  refine AW.regionK 0 (fun _ => none) [0] [] ?_
  simp only [go_sem, reduceIte, reduceCtorEq, zA, zM, zE, zL, zD, zS, zP, zB, zI, zR, ints_len]
  repeat with_reducible refine cj ?_ ?_
  all_goals try first | omega
  refine hK1 _ _ _ ?_; clear hK1
  refine AW.seq fun K2 hK2 => ?_
  refine AW.regionK 0 (fun _ => none) [2] [] ?_
  simp only [go_sem, reduceIte, reduceCtorEq, zA, zM, zE, zL, zD, zS, zP, zB, zI, zR, ints_len]
  repeat with_reducible refine cj ?_ ?_
  all_goals try first | omega
  refine hK2 _ _ _ ?_; clear hK2
  refine AW.ret ?_
  rw [← hQr]
  simp only [go_sem, reduceIte, reduceCtorEq, zA, zM, zE, zL, zD, zS, zP, zB, zI, zR, ints_len]
  exact Wk.refl _
def nea (n : Nat) (x : List Int) : Bool := !eachB n x
theorem nea_r (n : Nat) (hn : n ≤ 512) (x : List Int) (hx : x.length ≤ 9223372036854775807) : Reads Tryd.prog 33 false [.rsl 1 (ints x), .rptr [.int .i64 n]] (.bool (nea n x)) := by
  have h := each_r n hn x hx
  refine Reads.body (rs := [.tmp 3]) Tryd.func33 rfl Tryd.ntmps33 rfl (by simp) ?_
  generalize hQr : retQ _ _ _ = Qr
  refine AW.seq fun K1 hK1 => ?_
  refine AW.regionK 0 (fun _ => none) [0, 1] [] ?_
  simp only [go_sem, reduceIte, reduceCtorEq, zA, zM, zE, zL, zD, zS, zP, zB, zI, zR]
  repeat with_reducible refine cj ?_ ?_
  all_goals try first | omega
  refine hK1 _ _ _ ?_; clear hK1
  refine AW.seq fun K2 hK2 => ?_
  refine AW.regionK 0 (fun ii => if ii = 2 then some (.reads false (.bool (eachB n x))) else none) [3] [] ?_
  simp only [go_sem, reduceIte, reduceCtorEq, zA, zM, zE, zL, zD, zS, zP, zB, zI, zR]
  repeat with_reducible refine cj ?_ ?_
  all_goals try first | (exact h) | omega | exact ent (by kernel_rfl)
  refine hK2 _ _ _ ?_; clear hK2
  refine AW.ret ?_
  rw [← hQr]
  simp only [go_sem, reduceIte, reduceCtorEq, zA, zM, zE, zL, zD, zS, zP, zB, zI, zR]
  exact Wk.refl _
theorem gta_r (i j : Nat) (x : List Int) (hi : i < x.length) (hj : j < x.length) : Reads Tryd.prog 60 false [.rsl 1 (ints x), .rptr [.int .i64 i], .rptr [.int .i64 j]] (.bool (gtA i j x)) := by
  have h1 := ints_getD (l := x) (i := i) hi
  have h2 := ints_getD (l := x) (i := j) hj
  refine Reads.body (rs := [.tmp 4]) Tryd.func60 rfl Tryd.ntmps60 rfl (by simp) ?_
  generalize hQr : retQ _ _ _ = Qr
  refine AW.seq fun K1 hK1 => ?_
  refine AW.regionK 0 (fun _ => none) [0, 1, 2] [] ?_
  simp only [go_sem, reduceIte, reduceCtorEq, zA, zM, zE, zL, zD, zS, zP, zB, zI, zR, ints_len, h1, h2, Int.toNat_natCast]
  repeat with_reducible refine cj ?_ ?_
  all_goals try first | omega
  refine hK1 _ _ _ ?_; clear hK1
  refine AW.seq fun K2 hK2 => ?_
  refine AW.regionD mixed 0 (fun _ => none) [4] [] ?_
  simp only [go_sem, reduceIte, reduceCtorEq, zA, zM, zE, zL, zD, zS, zP, zB, zI, zR, ints_len, h1, h2, Int.toNat_natCast]
  repeat with_reducible refine cj ?_ ?_
  all_goals try first | omega | exact chk (by kernel_rfl)
  refine hK2 _ _ _ ?_; clear hK2
  refine AW.ret ?_
  rw [← hQr]
  simp only [go_sem, reduceIte, reduceCtorEq, zA, zM, zE, zL, zD, zS, zP, zB, zI, zR, ints_len, h1, h2, Int.toNat_natCast]
  exact Wk.refl _
theorem ixlon_r (ls : List (List Int)) (hl : ls.length ≤ 9223372036854775807) : Reads Tryd.prog 58 false [.rsl 1 (lisR ls), .fn 31 []] (.int .i64 (ixf (lon) ls)) := by
  refine Reads.body (rs := [.tmp 4]) Tryd.func58 rfl Tryd.ntmps58 rfl (by simp) ?_
  generalize hQr : retQ _ _ _ = Qr
  refine AW.seq fun K1 hK1 => ?_
  refine AW.regionK 0 (fun _ => none) [0, 1] [] ?_
  simp only [go_sem, reduceIte, reduceCtorEq, zA, zM, zE, zL, zD, zS, zP, zB, zI, zR, lisR_len]
  repeat with_reducible refine cj ?_ ?_
  all_goals try first | omega
  refine hK1 _ _ _ ?_; clear hK1
  refine AW.seq fun K2 hK2 => ?_
  refine AW.seq fun K3 hK3 => ?_
  refine AW.regionK 0 (fun _ => none) [0, 1, 7, 8] [] ?_
  simp only [go_sem, reduceIte, reduceCtorEq, zA, zM, zE, zL, zD, zS, zP, zB, zI, zR, lisR_len]
  repeat with_reducible refine cj ?_ ?_
  all_goals try first | omega
  refine hK3 _ _ _ ?_; clear hK3
  refine AW.block ?_
  refine AW.loopE (fun mm ee ss kk => ∃ (j : Nat), ls.length - j = mm ∧ ee = [(0, .rsl 1 (lisR ls)), (1, .fn 31 []), (7, .int .i64 ls.length), (8, .int .i64 (j : Nat))] ∧ ss = [] ∧ (j ≤ ls.length ∧ (ls.take j).any (lon) = false)) ?_ ?_
  · refine ⟨_, 0, rfl, ?henv, ?hstore, ?hst⟩
    case henv =>
      repeat' (first | rfl | refine env_cons ?_ ?_ | refine st_cons ?_ ?_ ?_ ?_ | refine int_eq ?_ | refine bool_eq ?_ | refine rsl_eq ?_ | refine osl_eq ?_ | refine sl_eq ?_ ?_ ?_ | refine ptr_eq ?_ ?_ ?_ | refine agg_eq ?_ | refine es_cons ?_ ?_ | refine row_cons ?_ ?_)
      all_goals (first | (simp; done) | omega | (simp; omega))
    case hstore =>
      repeat' (first | rfl | refine env_cons ?_ ?_ | refine st_cons ?_ ?_ ?_ ?_ | refine int_eq ?_ | refine bool_eq ?_ | refine rsl_eq ?_ | refine osl_eq ?_ | refine sl_eq ?_ ?_ ?_ | refine ptr_eq ?_ ?_ ?_ | refine agg_eq ?_ | refine es_cons ?_ ?_ | refine row_cons ?_ ?_)
      all_goals (first | (simp; done) | omega | (simp; omega))
    case hst =>
      first | trivial | omega | (simp; done) | (simp; omega)
  rintro mm ee ss kk ⟨j, rfl, rfl, rfl, hI⟩
  generalize hQl1 : thenQ _ _ = Ql1
  obtain ⟨hj, hall⟩ := hI
  refine AW.seq fun K4 hK4 => ?_
  refine AW.regionK 0 (fun _ => none) [0, 1, 7, 8, 9] [] ?_
  simp only [go_sem, reduceIte, reduceCtorEq, zA, zM, zE, zL, zD, zS, zP, zB, zI, zR, lisR_len]
  repeat with_reducible refine cj ?_ ?_
  all_goals try first | omega
  refine hK4 _ _ _ ?_; clear hK4
  refine AW.seq fun K5 hK5 => ?_
  refine AW.cond rfl (by simp only [go_sem, reduceIte, reduceCtorEq, zA, zM, zE, zL, zD, zS, zP, zB, zI, zR]) ?_ ?_
  · intro hb
    try simp only [hB, decide_eq_true_eq, decide_eq_false_iff_not] at hb
    obtain ⟨x, hx⟩ := getI (l := ls) (j := j) (by omega)
    have hgx : (lisR ls).getD j [] = [.rsl 1 (ints x)] := by simp [lisR, List.getD_eq_getElem?_getD, hx]
    have hats := any_take_succ (p := lon) hx
    have hbx := lon_r x
    refine AW.skip ?_
    refine hK5 _ _ _ ?_; clear hK5
    refine AW.seq fun K6 hK6 => ?_
    refine AW.block ?_
    refine AW.seq fun K7 hK7 => ?_
    refine AW.regionK 0 (fun _ => none) [0, 1, 5, 7, 8] [] ?_
    simp only [go_sem, reduceIte, reduceCtorEq, zA, zM, zE, zL, zD, zS, zP, zB, zI, zR, lisR_len]
    repeat with_reducible refine cj ?_ ?_
    all_goals try first | omega
    refine hK7 _ _ _ ?_; clear hK7
    refine AW.seq fun K8 hK8 => ?_
    refine AW.regionK 0 (fun ii => if ii = 5 then some (.reads false (.bool (lon x))) else none) [0, 1, 5, 7, 8, 16] [] ?_
    simp only [go_sem, reduceIte, reduceCtorEq, zA, zM, zE, zL, zD, zS, zP, zB, zI, zR, lisR_len, hgx]
    repeat with_reducible refine cj ?_ ?_
    all_goals try first | (exact hbx) | omega | exact ent (by kernel_rfl)
    refine hK8 _ _ _ ?_; clear hK8
    refine AW.cond rfl (by simp only [go_sem, reduceIte, reduceCtorEq, zA, zM, zE, zL, zD, zS, zP, zB, zI, zR]) ?_ ?_
    · intro hb
      try simp only [hB, decide_eq_true_eq, decide_eq_false_iff_not] at hb
      refine AW.seq fun K9 hK9 => ?_
      refine AW.regionK 0 (fun _ => none) [4] [] ?_
      simp only [go_sem, reduceIte, reduceCtorEq, zA, zM, zE, zL, zD, zS, zP, zB, zI, zR, lisR_len]
      repeat with_reducible refine cj ?_ ?_
      all_goals try first | omega
      refine hK9 _ _ _ ?_; clear hK9
      refine AW.ret ?_
      rw [← hQl1]
      rw [← hQr]
      simp only [go_sem, reduceIte, reduceCtorEq, zA, zM, zE, zL, zD, zS, zP, zB, zI, zR, lisR_len]
      exact Wk.of_eq (by rw [ixf_at hx hb hall])
    · intro hb
      try simp only [hB, decide_eq_true_eq, decide_eq_false_iff_not] at hb
      refine AW.skip ?_
      refine hK6 _ _ _ ?_; clear hK6
      refine AW.regionK 0 (fun _ => none) [0, 1, 7, 8] [] ?_
      simp only [go_sem, reduceIte, reduceCtorEq, zA, zM, zE, zL, zD, zS, zP, zB, zI, zR, lisR_len]
      repeat with_reducible refine cj ?_ ?_
      all_goals try first | omega
      rw [← hQl1]
      change Exists _
      refine ⟨_, ?hm, j + 1, rfl, ?henv, ?hstore, ?hst⟩
      case henv =>
        repeat' (first | rfl | refine env_cons ?_ ?_ | refine st_cons ?_ ?_ ?_ ?_ | refine int_eq ?_ | refine bool_eq ?_ | refine rsl_eq ?_ | refine osl_eq ?_ | refine sl_eq ?_ ?_ ?_ | refine ptr_eq ?_ ?_ ?_ | refine agg_eq ?_ | refine es_cons ?_ ?_ | refine row_cons ?_ ?_)
        all_goals (first | (simp; done) | omega | (simp; omega))
      case hstore =>
        repeat' (first | rfl | refine env_cons ?_ ?_ | refine st_cons ?_ ?_ ?_ ?_ | refine int_eq ?_ | refine bool_eq ?_ | refine rsl_eq ?_ | refine osl_eq ?_ | refine sl_eq ?_ ?_ ?_ | refine ptr_eq ?_ ?_ ?_ | refine agg_eq ?_ | refine es_cons ?_ ?_ | refine row_cons ?_ ?_)
        all_goals (first | (simp; done) | omega | (simp; omega))
      case hst =>
        exact ⟨by omega, by rw [hats, hall, hb]; rfl⟩
      case hm => omega
  · intro hb
    try simp only [hB, decide_eq_true_eq, decide_eq_false_iff_not] at hb
    refine AW.keep [] [] ?_
    try simp only [go_sem, reduceIte, reduceCtorEq, zA, zM, zE, zL, zD, zS, zP, zB, zI, zR]
    refine AW.exit ?_
    rw [← hQl1]
    refine hK2 _ _ _ ?_; clear hK2
    refine AW.seq fun K10 hK10 => ?_
    refine AW.regionK 0 (fun _ => none) [4] [] ?_
    simp only [go_sem, reduceIte, reduceCtorEq, zA, zM, zE, zL, zD, zS, zP, zB, zI, zR, lisR_len]
    repeat with_reducible refine cj ?_ ?_
    all_goals try first | omega
    refine hK10 _ _ _ ?_; clear hK10
    refine AW.ret ?_
    rw [← hQr]
    simp only [go_sem, reduceIte, reduceCtorEq, zA, zM, zE, zL, zD, zS, zP, zB, zI, zR, lisR_len]
    exact Wk.of_eq (by rw [List.take_of_length_le (by omega)] at hall; rw [ixf_none hall])
theorem ctlon_r (ls : List (List Int)) (hl : ls.length ≤ 9223372036854775807) : Reads Tryd.prog 30 false [.rsl 1 (lisR ls), .fn 31 []] (.bool (ls.any (lon))) := by
  have h := ixlon_r ls hl
  have hge := ixf_ge (lon) ls
  refine Reads.body (rs := [.tmp 4]) Tryd.func30 rfl Tryd.ntmps30 rfl (by simp) ?_
  generalize hQr : retQ _ _ _ = Qr
  refine AW.seq fun K1 hK1 => ?_
  refine AW.regionK 0 (fun _ => none) [0, 1] [] ?_
  simp only [go_sem, reduceIte, reduceCtorEq, zA, zM, zE, zL, zD, zS, zP, zB, zI, zR]
  repeat with_reducible refine cj ?_ ?_
  all_goals try first | omega
  refine hK1 _ _ _ ?_; clear hK1
  refine AW.seq fun K2 hK2 => ?_
  refine AW.regionK 0 (fun ii => if ii = 2 then some (.reads false (.int .i64 (ixf (lon) ls))) else none) [4] [] ?_
  simp only [go_sem, reduceIte, reduceCtorEq, zA, zM, zE, zL, zD, zS, zP, zB, zI, zR]
  repeat with_reducible refine cj ?_ ?_
  all_goals try first | (exact h) | omega | exact ent (by kernel_rfl)
  refine hK2 _ _ _ ?_; clear hK2
  refine AW.ret ?_
  rw [← hQr]
  simp only [go_sem, reduceIte, reduceCtorEq, zA, zM, zE, zL, zD, zS, zP, zB, zI, zR]
  exact Wk.of_eq (by rw [hge])
theorem ixnea_r (n : Nat) (hn : n ≤ 512) (ls : List (List Int)) (hl : ls.length ≤ 9223372036854775807) (hx : ∀ x ∈ ls, x.length ≤ 9223372036854775807) : Reads Tryd.prog 58 false [.rsl 1 (lisR ls), .fn 33 [.rptr [.int .i64 n]]] (.int .i64 (ixf (nea n) ls)) := by
  have hx0 := hx
  refine Reads.body (rs := [.tmp 4]) Tryd.func58 rfl Tryd.ntmps58 rfl (by simp) ?_
  generalize hQr : retQ _ _ _ = Qr
  refine AW.seq fun K1 hK1 => ?_
  refine AW.regionK 0 (fun _ => none) [0, 1] [] ?_
  simp only [go_sem, reduceIte, reduceCtorEq, zA, zM, zE, zL, zD, zS, zP, zB, zI, zR, lisR_len]
  repeat with_reducible refine cj ?_ ?_
  all_goals try first | omega
  refine hK1 _ _ _ ?_; clear hK1
  refine AW.seq fun K2 hK2 => ?_
  refine AW.seq fun K3 hK3 => ?_
  refine AW.regionK 0 (fun _ => none) [0, 1, 7, 8] [] ?_
  simp only [go_sem, reduceIte, reduceCtorEq, zA, zM, zE, zL, zD, zS, zP, zB, zI, zR, lisR_len]
  repeat with_reducible refine cj ?_ ?_
  all_goals try first | omega
  refine hK3 _ _ _ ?_; clear hK3
  refine AW.block ?_
  refine AW.loopE (fun mm ee ss kk => ∃ (j : Nat), ls.length - j = mm ∧ ee = [(0, .rsl 1 (lisR ls)), (1, .fn 33 [.rptr [.int .i64 n]]), (7, .int .i64 ls.length), (8, .int .i64 (j : Nat))] ∧ ss = [] ∧ (j ≤ ls.length ∧ (ls.take j).any (nea n) = false)) ?_ ?_
  · refine ⟨_, 0, rfl, ?henv, ?hstore, ?hst⟩
    case henv =>
      repeat' (first | rfl | refine env_cons ?_ ?_ | refine st_cons ?_ ?_ ?_ ?_ | refine int_eq ?_ | refine bool_eq ?_ | refine rsl_eq ?_ | refine osl_eq ?_ | refine sl_eq ?_ ?_ ?_ | refine ptr_eq ?_ ?_ ?_ | refine agg_eq ?_ | refine es_cons ?_ ?_ | refine row_cons ?_ ?_)
      all_goals (first | (simp; done) | omega | (simp; omega))
    case hstore =>
      repeat' (first | rfl | refine env_cons ?_ ?_ | refine st_cons ?_ ?_ ?_ ?_ | refine int_eq ?_ | refine bool_eq ?_ | refine rsl_eq ?_ | refine osl_eq ?_ | refine sl_eq ?_ ?_ ?_ | refine ptr_eq ?_ ?_ ?_ | refine agg_eq ?_ | refine es_cons ?_ ?_ | refine row_cons ?_ ?_)
      all_goals (first | (simp; done) | omega | (simp; omega))
    case hst =>
      first | trivial | omega | (simp; done) | (simp; omega)
  rintro mm ee ss kk ⟨j, rfl, rfl, rfl, hI⟩
  generalize hQl1 : thenQ _ _ = Ql1
  obtain ⟨hj, hall⟩ := hI
  refine AW.seq fun K4 hK4 => ?_
  refine AW.regionK 0 (fun _ => none) [0, 1, 7, 8, 9] [] ?_
  simp only [go_sem, reduceIte, reduceCtorEq, zA, zM, zE, zL, zD, zS, zP, zB, zI, zR, lisR_len]
  repeat with_reducible refine cj ?_ ?_
  all_goals try first | omega
  refine hK4 _ _ _ ?_; clear hK4
  refine AW.seq fun K5 hK5 => ?_
  refine AW.cond rfl (by simp only [go_sem, reduceIte, reduceCtorEq, zA, zM, zE, zL, zD, zS, zP, zB, zI, zR]) ?_ ?_
  · intro hb
    try simp only [hB, decide_eq_true_eq, decide_eq_false_iff_not] at hb
    obtain ⟨x, hx⟩ := getI (l := ls) (j := j) (by omega)
    have hgx : (lisR ls).getD j [] = [.rsl 1 (ints x)] := by simp [lisR, List.getD_eq_getElem?_getD, hx]
    have hats := any_take_succ (p := nea n) hx
    have hbx := nea_r n hn x (hx0 x (List.mem_of_getElem? hx))
    refine AW.skip ?_
    refine hK5 _ _ _ ?_; clear hK5
    refine AW.seq fun K6 hK6 => ?_
    refine AW.block ?_
    refine AW.seq fun K7 hK7 => ?_
    refine AW.regionK 0 (fun _ => none) [0, 1, 5, 7, 8] [] ?_
    simp only [go_sem, reduceIte, reduceCtorEq, zA, zM, zE, zL, zD, zS, zP, zB, zI, zR, lisR_len]
    repeat with_reducible refine cj ?_ ?_
    all_goals try first | omega
    refine hK7 _ _ _ ?_; clear hK7
    refine AW.seq fun K8 hK8 => ?_
    refine AW.regionK 0 (fun ii => if ii = 5 then some (.reads false (.bool (nea n x))) else none) [0, 1, 5, 7, 8, 16] [] ?_
    simp only [go_sem, reduceIte, reduceCtorEq, zA, zM, zE, zL, zD, zS, zP, zB, zI, zR, lisR_len, hgx]
    repeat with_reducible refine cj ?_ ?_
    all_goals try first | (exact hbx) | omega | exact ent (by kernel_rfl)
    refine hK8 _ _ _ ?_; clear hK8
    refine AW.cond rfl (by simp only [go_sem, reduceIte, reduceCtorEq, zA, zM, zE, zL, zD, zS, zP, zB, zI, zR]) ?_ ?_
    · intro hb
      try simp only [hB, decide_eq_true_eq, decide_eq_false_iff_not] at hb
      refine AW.seq fun K9 hK9 => ?_
      refine AW.regionK 0 (fun _ => none) [4] [] ?_
      simp only [go_sem, reduceIte, reduceCtorEq, zA, zM, zE, zL, zD, zS, zP, zB, zI, zR, lisR_len]
      repeat with_reducible refine cj ?_ ?_
      all_goals try first | omega
      refine hK9 _ _ _ ?_; clear hK9
      refine AW.ret ?_
      rw [← hQl1]
      rw [← hQr]
      simp only [go_sem, reduceIte, reduceCtorEq, zA, zM, zE, zL, zD, zS, zP, zB, zI, zR, lisR_len]
      exact Wk.of_eq (by rw [ixf_at hx hb hall])
    · intro hb
      try simp only [hB, decide_eq_true_eq, decide_eq_false_iff_not] at hb
      refine AW.skip ?_
      refine hK6 _ _ _ ?_; clear hK6
      refine AW.regionK 0 (fun _ => none) [0, 1, 7, 8] [] ?_
      simp only [go_sem, reduceIte, reduceCtorEq, zA, zM, zE, zL, zD, zS, zP, zB, zI, zR, lisR_len]
      repeat with_reducible refine cj ?_ ?_
      all_goals try first | omega
      rw [← hQl1]
      change Exists _
      refine ⟨_, ?hm, j + 1, rfl, ?henv, ?hstore, ?hst⟩
      case henv =>
        repeat' (first | rfl | refine env_cons ?_ ?_ | refine st_cons ?_ ?_ ?_ ?_ | refine int_eq ?_ | refine bool_eq ?_ | refine rsl_eq ?_ | refine osl_eq ?_ | refine sl_eq ?_ ?_ ?_ | refine ptr_eq ?_ ?_ ?_ | refine agg_eq ?_ | refine es_cons ?_ ?_ | refine row_cons ?_ ?_)
        all_goals (first | (simp; done) | omega | (simp; omega))
      case hstore =>
        repeat' (first | rfl | refine env_cons ?_ ?_ | refine st_cons ?_ ?_ ?_ ?_ | refine int_eq ?_ | refine bool_eq ?_ | refine rsl_eq ?_ | refine osl_eq ?_ | refine sl_eq ?_ ?_ ?_ | refine ptr_eq ?_ ?_ ?_ | refine agg_eq ?_ | refine es_cons ?_ ?_ | refine row_cons ?_ ?_)
        all_goals (first | (simp; done) | omega | (simp; omega))
      case hst =>
        exact ⟨by omega, by rw [hats, hall, hb]; rfl⟩
      case hm => omega
  · intro hb
    try simp only [hB, decide_eq_true_eq, decide_eq_false_iff_not] at hb
    refine AW.keep [] [] ?_
    try simp only [go_sem, reduceIte, reduceCtorEq, zA, zM, zE, zL, zD, zS, zP, zB, zI, zR]
    refine AW.exit ?_
    rw [← hQl1]
    refine hK2 _ _ _ ?_; clear hK2
    refine AW.seq fun K10 hK10 => ?_
    refine AW.regionK 0 (fun _ => none) [4] [] ?_
    simp only [go_sem, reduceIte, reduceCtorEq, zA, zM, zE, zL, zD, zS, zP, zB, zI, zR, lisR_len]
    repeat with_reducible refine cj ?_ ?_
    all_goals try first | omega
    refine hK10 _ _ _ ?_; clear hK10
    refine AW.ret ?_
    rw [← hQr]
    simp only [go_sem, reduceIte, reduceCtorEq, zA, zM, zE, zL, zD, zS, zP, zB, zI, zR, lisR_len]
    exact Wk.of_eq (by rw [List.take_of_length_le (by omega)] at hall; rw [ixf_none hall])
theorem ctnea_r (n : Nat) (hn : n ≤ 512) (ls : List (List Int)) (hl : ls.length ≤ 9223372036854775807) (hx : ∀ x ∈ ls, x.length ≤ 9223372036854775807) : Reads Tryd.prog 30 false [.rsl 1 (lisR ls), .fn 33 [.rptr [.int .i64 n]]] (.bool (ls.any (nea n))) := by
  have h := ixnea_r n hn ls hl hx
  have hge := ixf_ge (nea n) ls
  refine Reads.body (rs := [.tmp 4]) Tryd.func30 rfl Tryd.ntmps30 rfl (by simp) ?_
  generalize hQr : retQ _ _ _ = Qr
  refine AW.seq fun K1 hK1 => ?_
  refine AW.regionK 0 (fun _ => none) [0, 1] [] ?_
  simp only [go_sem, reduceIte, reduceCtorEq, zA, zM, zE, zL, zD, zS, zP, zB, zI, zR]
  repeat with_reducible refine cj ?_ ?_
  all_goals try first | omega
  refine hK1 _ _ _ ?_; clear hK1
  refine AW.seq fun K2 hK2 => ?_
  refine AW.regionK 0 (fun ii => if ii = 2 then some (.reads false (.int .i64 (ixf (nea n) ls))) else none) [4] [] ?_
  simp only [go_sem, reduceIte, reduceCtorEq, zA, zM, zE, zL, zD, zS, zP, zB, zI, zR]
  repeat with_reducible refine cj ?_ ?_
  all_goals try first | (exact h) | omega | exact ent (by kernel_rfl)
  refine hK2 _ _ _ ?_; clear hK2
  refine AW.ret ?_
  rw [← hQr]
  simp only [go_sem, reduceIte, reduceCtorEq, zA, zM, zE, zL, zD, zS, zP, zB, zI, zR]
  exact Wk.of_eq (by rw [hge])
theorem ixgta_r (a b n : Nat) (ls : List (List Int)) (hl : ls.length ≤ 9223372036854775807) (hA : a < n) (hC : b < n) (hx : ∀ x ∈ ls, x.length = n) : Reads Tryd.prog 58 false [.rsl 1 (lisR ls), .fn 60 [.rptr [.int .i64 a], .rptr [.int .i64 b]]] (.int .i64 (ixf (gtA a b) ls)) := by
  have hx0 := hx
  refine Reads.body (rs := [.tmp 4]) Tryd.func58 rfl Tryd.ntmps58 rfl (by simp) ?_
  generalize hQr : retQ _ _ _ = Qr
  refine AW.seq fun K1 hK1 => ?_
  refine AW.regionK 0 (fun _ => none) [0, 1] [] ?_
  simp only [go_sem, reduceIte, reduceCtorEq, zA, zM, zE, zL, zD, zS, zP, zB, zI, zR, lisR_len]
  repeat with_reducible refine cj ?_ ?_
  all_goals try first | omega
  refine hK1 _ _ _ ?_; clear hK1
  refine AW.seq fun K2 hK2 => ?_
  refine AW.seq fun K3 hK3 => ?_
  refine AW.regionK 0 (fun _ => none) [0, 1, 7, 8] [] ?_
  simp only [go_sem, reduceIte, reduceCtorEq, zA, zM, zE, zL, zD, zS, zP, zB, zI, zR, lisR_len]
  repeat with_reducible refine cj ?_ ?_
  all_goals try first | omega
  refine hK3 _ _ _ ?_; clear hK3
  refine AW.block ?_
  refine AW.loopE (fun mm ee ss kk => ∃ (j : Nat), ls.length - j = mm ∧ ee = [(0, .rsl 1 (lisR ls)), (1, .fn 60 [.rptr [.int .i64 a], .rptr [.int .i64 b]]), (7, .int .i64 ls.length), (8, .int .i64 (j : Nat))] ∧ ss = [] ∧ (j ≤ ls.length ∧ (ls.take j).any (gtA a b) = false)) ?_ ?_
  · refine ⟨_, 0, rfl, ?henv, ?hstore, ?hst⟩
    case henv =>
      repeat' (first | rfl | refine env_cons ?_ ?_ | refine st_cons ?_ ?_ ?_ ?_ | refine int_eq ?_ | refine bool_eq ?_ | refine rsl_eq ?_ | refine osl_eq ?_ | refine sl_eq ?_ ?_ ?_ | refine ptr_eq ?_ ?_ ?_ | refine agg_eq ?_ | refine es_cons ?_ ?_ | refine row_cons ?_ ?_)
      all_goals (first | (simp; done) | omega | (simp; omega))
    case hstore =>
      repeat' (first | rfl | refine env_cons ?_ ?_ | refine st_cons ?_ ?_ ?_ ?_ | refine int_eq ?_ | refine bool_eq ?_ | refine rsl_eq ?_ | refine osl_eq ?_ | refine sl_eq ?_ ?_ ?_ | refine ptr_eq ?_ ?_ ?_ | refine agg_eq ?_ | refine es_cons ?_ ?_ | refine row_cons ?_ ?_)
      all_goals (first | (simp; done) | omega | (simp; omega))
    case hst =>
      first | trivial | omega | (simp; done) | (simp; omega)
  rintro mm ee ss kk ⟨j, rfl, rfl, rfl, hI⟩
  generalize hQl1 : thenQ _ _ = Ql1
  obtain ⟨hj, hall⟩ := hI
  refine AW.seq fun K4 hK4 => ?_
  refine AW.regionK 0 (fun _ => none) [0, 1, 7, 8, 9] [] ?_
  simp only [go_sem, reduceIte, reduceCtorEq, zA, zM, zE, zL, zD, zS, zP, zB, zI, zR, lisR_len]
  repeat with_reducible refine cj ?_ ?_
  all_goals try first | omega
  refine hK4 _ _ _ ?_; clear hK4
  refine AW.seq fun K5 hK5 => ?_
  refine AW.cond rfl (by simp only [go_sem, reduceIte, reduceCtorEq, zA, zM, zE, zL, zD, zS, zP, zB, zI, zR]) ?_ ?_
  · intro hb
    try simp only [hB, decide_eq_true_eq, decide_eq_false_iff_not] at hb
    obtain ⟨x, hx⟩ := getI (l := ls) (j := j) (by omega)
    have hgx : (lisR ls).getD j [] = [.rsl 1 (ints x)] := by simp [lisR, List.getD_eq_getElem?_getD, hx]
    have hats := any_take_succ (p := gtA a b) hx
    have hbx := gta_r a b x (by rw [hx0 x (List.mem_of_getElem? hx)]; exact hA) (by rw [hx0 x (List.mem_of_getElem? hx)]; exact hC)
    refine AW.skip ?_
    refine hK5 _ _ _ ?_; clear hK5
    refine AW.seq fun K6 hK6 => ?_
    refine AW.block ?_
    refine AW.seq fun K7 hK7 => ?_
    refine AW.regionK 0 (fun _ => none) [0, 1, 5, 7, 8] [] ?_
    simp only [go_sem, reduceIte, reduceCtorEq, zA, zM, zE, zL, zD, zS, zP, zB, zI, zR, lisR_len]
    repeat with_reducible refine cj ?_ ?_
    all_goals try first | omega
    refine hK7 _ _ _ ?_; clear hK7
    refine AW.seq fun K8 hK8 => ?_
    refine AW.regionK 0 (fun ii => if ii = 5 then some (.reads false (.bool (gtA a b x))) else none) [0, 1, 5, 7, 8, 16] [] ?_
    simp only [go_sem, reduceIte, reduceCtorEq, zA, zM, zE, zL, zD, zS, zP, zB, zI, zR, lisR_len, hgx]
    repeat with_reducible refine cj ?_ ?_
    all_goals try first | (exact hbx) | omega | exact ent (by kernel_rfl)
    refine hK8 _ _ _ ?_; clear hK8
    refine AW.cond rfl (by simp only [go_sem, reduceIte, reduceCtorEq, zA, zM, zE, zL, zD, zS, zP, zB, zI, zR]) ?_ ?_
    · intro hb
      try simp only [hB, decide_eq_true_eq, decide_eq_false_iff_not] at hb
      refine AW.seq fun K9 hK9 => ?_
      refine AW.regionK 0 (fun _ => none) [4] [] ?_
      simp only [go_sem, reduceIte, reduceCtorEq, zA, zM, zE, zL, zD, zS, zP, zB, zI, zR, lisR_len]
      repeat with_reducible refine cj ?_ ?_
      all_goals try first | omega
      refine hK9 _ _ _ ?_; clear hK9
      refine AW.ret ?_
      rw [← hQl1]
      rw [← hQr]
      simp only [go_sem, reduceIte, reduceCtorEq, zA, zM, zE, zL, zD, zS, zP, zB, zI, zR, lisR_len]
      exact Wk.of_eq (by rw [ixf_at hx hb hall])
    · intro hb
      try simp only [hB, decide_eq_true_eq, decide_eq_false_iff_not] at hb
      refine AW.skip ?_
      refine hK6 _ _ _ ?_; clear hK6
      refine AW.regionK 0 (fun _ => none) [0, 1, 7, 8] [] ?_
      simp only [go_sem, reduceIte, reduceCtorEq, zA, zM, zE, zL, zD, zS, zP, zB, zI, zR, lisR_len]
      repeat with_reducible refine cj ?_ ?_
      all_goals try first | omega
      rw [← hQl1]
      change Exists _
      refine ⟨_, ?hm, j + 1, rfl, ?henv, ?hstore, ?hst⟩
      case henv =>
        repeat' (first | rfl | refine env_cons ?_ ?_ | refine st_cons ?_ ?_ ?_ ?_ | refine int_eq ?_ | refine bool_eq ?_ | refine rsl_eq ?_ | refine osl_eq ?_ | refine sl_eq ?_ ?_ ?_ | refine ptr_eq ?_ ?_ ?_ | refine agg_eq ?_ | refine es_cons ?_ ?_ | refine row_cons ?_ ?_)
        all_goals (first | (simp; done) | omega | (simp; omega))
      case hstore =>
        repeat' (first | rfl | refine env_cons ?_ ?_ | refine st_cons ?_ ?_ ?_ ?_ | refine int_eq ?_ | refine bool_eq ?_ | refine rsl_eq ?_ | refine osl_eq ?_ | refine sl_eq ?_ ?_ ?_ | refine ptr_eq ?_ ?_ ?_ | refine agg_eq ?_ | refine es_cons ?_ ?_ | refine row_cons ?_ ?_)
        all_goals (first | (simp; done) | omega | (simp; omega))
      case hst =>
        exact ⟨by omega, by rw [hats, hall, hb]; rfl⟩
      case hm => omega
  · intro hb
    try simp only [hB, decide_eq_true_eq, decide_eq_false_iff_not] at hb
    refine AW.keep [] [] ?_
    try simp only [go_sem, reduceIte, reduceCtorEq, zA, zM, zE, zL, zD, zS, zP, zB, zI, zR]
    refine AW.exit ?_
    rw [← hQl1]
    refine hK2 _ _ _ ?_; clear hK2
    refine AW.seq fun K10 hK10 => ?_
    refine AW.regionK 0 (fun _ => none) [4] [] ?_
    simp only [go_sem, reduceIte, reduceCtorEq, zA, zM, zE, zL, zD, zS, zP, zB, zI, zR, lisR_len]
    repeat with_reducible refine cj ?_ ?_
    all_goals try first | omega
    refine hK10 _ _ _ ?_; clear hK10
    refine AW.ret ?_
    rw [← hQr]
    simp only [go_sem, reduceIte, reduceCtorEq, zA, zM, zE, zL, zD, zS, zP, zB, zI, zR, lisR_len]
    exact Wk.of_eq (by rw [List.take_of_length_le (by omega)] at hall; rw [ixf_none hall])
theorem ctgta_r (a b n : Nat) (ls : List (List Int)) (hl : ls.length ≤ 9223372036854775807) (hA : a < n) (hC : b < n) (hx : ∀ x ∈ ls, x.length = n) : Reads Tryd.prog 30 false [.rsl 1 (lisR ls), .fn 60 [.rptr [.int .i64 a], .rptr [.int .i64 b]]] (.bool (ls.any (gtA a b))) := by
  have h := ixgta_r a b n ls hl hA hC hx
  have hge := ixf_ge (gtA a b) ls
  refine Reads.body (rs := [.tmp 4]) Tryd.func30 rfl Tryd.ntmps30 rfl (by simp) ?_
  generalize hQr : retQ _ _ _ = Qr
  refine AW.seq fun K1 hK1 => ?_
  refine AW.regionK 0 (fun _ => none) [0, 1] [] ?_
  simp only [go_sem, reduceIte, reduceCtorEq, zA, zM, zE, zL, zD, zS, zP, zB, zI, zR]
  repeat with_reducible refine cj ?_ ?_
  all_goals try first | omega
  refine hK1 _ _ _ ?_; clear hK1
  refine AW.seq fun K2 hK2 => ?_
  refine AW.regionK 0 (fun ii => if ii = 2 then some (.reads false (.int .i64 (ixf (gtA a b) ls))) else none) [4] [] ?_
  simp only [go_sem, reduceIte, reduceCtorEq, zA, zM, zE, zL, zD, zS, zP, zB, zI, zR]
  repeat with_reducible refine cj ?_ ?_
  all_goals try first | (exact h) | omega | exact ent (by kernel_rfl)
  refine hK2 _ _ _ ?_; clear hK2
  refine AW.ret ?_
  rw [← hQr]
  simp only [go_sem, reduceIte, reduceCtorEq, zA, zM, zE, zL, zD, zS, zP, zB, zI, zR]
  exact Wk.of_eq (by rw [hge])
theorem places_r (n : Nat) (hn : n ≤ 512) (l : List Int) (hl : l.length ≤ 9223372036854775807) : Reads Tryd.prog 59 false [.int .i64 n, .rsl 1 (ints l)] (.tup [.rsl 1 (ints (if eachB n l then plI n l n else [])), .bool (eachB n l)]) := by
  have hz : List.replicate n [AV.int .i64 0] = ints (plI n l 0) := by simp [plI, ints]
  have hE : eachB n l = (decide (l.length = n) && eachGo n (List.replicate n false) l) := rfl
  refine Reads.body (rs := [.tmp 4, .tmp 5]) Tryd.func59 rfl Tryd.ntmps59 rfl (by simp) ?_
  generalize hQr : retQ _ _ _ = Qr
  refine AW.seq fun K1 hK1 => ?_
  refine AW.regionK 0 (fun _ => none) [0, 1] [] ?_
  simp only [go_sem, reduceIte, reduceCtorEq, zA, zM, zE, zL, zD, zS, zP, zB, zI, zR, ints_len]
  repeat with_reducible refine cj ?_ ?_
  all_goals try first | omega
  refine hK1 _ _ _ ?_; clear hK1
  refine AW.seq fun K2 hK2 => ?_
  refine AW.regionK 0 (fun _ => none) [0, 1, 6] [10] ?_
  simp only [go_sem, reduceIte, reduceCtorEq, zA, zM, zE, zL, zD, zS, zP, zB, zI, zR, ints_len]
  repeat with_reducible refine cj ?_ ?_
  all_goals try first | omega
  refine hK2 _ _ _ ?_; clear hK2
  refine AW.seq fun K3 hK3 => ?_
  refine AW.seq fun K4 hK4 => ?_
  refine AW.regionK 0 (fun _ => none) [0, 1, 6, 14] [10] ?_
  simp only [go_sem, reduceIte, reduceCtorEq, zA, zM, zE, zL, zD, zS, zP, zB, zI, zR, ints_len]
  repeat with_reducible refine cj ?_ ?_
  all_goals try first | omega
  refine hK4 _ _ _ ?_; clear hK4
  refine AW.cond rfl (by simp only [go_sem, reduceIte, reduceCtorEq, zA, zM, zE, zL, zD, zS, zP, zB, zI, zR]) ?_ ?_
  · intro hb
    try simp only [hB, decide_eq_true_eq, decide_eq_false_iff_not] at hb
    have hE2 : eachB n l = false := by rw [hE]; simp; omega
    refine AW.seq fun K5 hK5 => ?_
    refine AW.regionK 0 (fun _ => none) [4, 5] [] ?_
    simp only [go_sem, reduceIte, reduceCtorEq, zA, zM, zE, zL, zD, zS, zP, zB, zI, zR, ints_len]
    repeat with_reducible refine cj ?_ ?_
    all_goals try first | omega
    refine hK5 _ _ _ ?_; clear hK5
    refine AW.ret ?_
    rw [← hQr]
    simp only [go_sem, reduceIte, reduceCtorEq, zA, zM, zE, zL, zD, zS, zP, zB, zI, zR, ints_len]
    exact Wk.trans (Wk.tup2 (Wk.nil 1) (Wk.refl _)) (Wk.of_eq (by rw [hE2]; rfl))
  · intro hb
    try simp only [hB, decide_eq_true_eq, decide_eq_false_iff_not] at hb
    have hln : l.length = n := by omega
    have hpi := fun i hi m hm => plI_iff (n := n) (l := l) hln (i := i) hi m hm
    refine AW.skip ?_
    refine hK3 _ _ _ ?_; clear hK3
    refine AW.seq fun K6 hK6 => ?_
    refine AW.seq fun K7 hK7 => ?_
    refine AW.regionK 0 (fun _ => none) [0, 6, 15, 16, 17] [10] ?_
    simp only [go_sem, reduceIte, reduceCtorEq, zA, zM, zE, zL, zD, zS, zP, zB, zI, zR, ints_len]
    repeat with_reducible refine cj ?_ ?_
    all_goals try first | omega
    refine hK7 _ _ _ ?_; clear hK7
    refine AW.block ?_
    refine AW.loopE (fun mm ee ss kk => ∃ (k g v : Nat), n - k = mm ∧ ee = [(0, .int .i64 n), (6, .sl ⟨10, g, none⟩ 0 n none), (15, .rsl 1 (ints l)), (16, .int .i64 n), (17, .int .i64 (k : Nat))] ∧ ss = [(10, some ⟨g, v, 1, ints (plI n l k)⟩)] ∧ (k ≤ n ∧ eachGo n (List.replicate n false) (l.take k) = true)) ?_ ?_
    · refine ⟨_, 0, ?_, ?_, rfl, ?henv, ?hstore, ?hst⟩
      case henv =>
        repeat' (first | rfl | refine env_cons ?_ ?_ | refine st_cons ?_ ?_ ?_ ?_ | refine int_eq ?_ | refine bool_eq ?_ | refine rsl_eq ?_ | refine osl_eq ?_ | refine sl_eq ?_ ?_ ?_ | refine ptr_eq ?_ ?_ ?_ | refine agg_eq ?_ | refine es_cons ?_ ?_ | refine row_cons ?_ ?_)
        all_goals (first | omega | rfl | (rw [hln]) | (simp [hln]))
      case hstore =>
        repeat' (first | rfl | refine env_cons ?_ ?_ | refine st_cons ?_ ?_ ?_ ?_ | refine int_eq ?_ | refine bool_eq ?_ | refine rsl_eq ?_ | refine osl_eq ?_ | refine sl_eq ?_ ?_ ?_ | refine ptr_eq ?_ ?_ ?_ | refine agg_eq ?_ | refine es_cons ?_ ?_ | refine row_cons ?_ ?_)
        all_goals (rw [hz])
      case hst =>
        exact ⟨Nat.zero_le _, rfl⟩
    rintro mm ee ss kk ⟨k, g, v, rfl, rfl, rfl, hI⟩
    generalize hQl1 : thenQ _ _ = Ql1
    obtain ⟨hk, hall⟩ := hI
    have hdl := plI_len n l k
    have hbl := ints_len (plI n l k)
    rw [hdl] at hbl
    refine AW.seq fun K8 hK8 => ?_
    refine AW.regionK 0 (fun _ => none) [0, 6, 15, 16, 17, 18] [10] ?_
    simp only [go_sem, reduceIte, reduceCtorEq, zA, zM, zE, zL, zD, zS, zP, zB, zI, zR, ints_len]
    repeat with_reducible refine cj ?_ ?_
    all_goals try first | omega
    refine hK8 _ _ _ ?_; clear hK8
    refine AW.seq fun K9 hK9 => ?_
    refine AW.cond rfl (by simp only [go_sem, reduceIte, reduceCtorEq, zA, zM, zE, zL, zD, zS, zP, zB, zI, zR]) ?_ ?_
    · intro hb
      try simp only [hB, decide_eq_true_eq, decide_eq_false_iff_not] at hb
      have hk2 : k < n := by omega
      have hgx := ints_getD (l := l) (i := k) (by omega)
      have hgd := fun h => ints_getD (l := plI n l k) (i := (l.getD k 0).toNat) h
      have hpk := fun hi => hpi (l.getD k 0).toNat hi k (by omega)
      have hps : plI n l (k + 1) = (plI n l k).set (l.getD k 0).toNat ((k : Int) + 1) := rfl
      have htk : l.take (k + 1) = l.take k ++ [l.getD k 0] := by rw [List.take_add_one, List.getElem?_eq_getElem (by omega)]; simp [List.getD_eq_getElem?_getD, List.getElem?_eq_getElem (show k < l.length by omega)]
      have hap := eachGo_app n (l.take k) [l.getD k 0] (List.replicate n false)
      rw [← htk, hall, Bool.true_and] at hap
      have hdd : exD (List.replicate n false) (l.take k) = dAt n l k := rfl
      have hat := fun h => eachGo_at (n := n) (d := List.replicate n false) (l := l) h (m := k) (by omega)
      rw [hdd] at hap hat
      generalize hX : l.getD k 0 = x at *
      generalize hD : dAt n l k = d at *
      generalize hPk : plI n l k = P at *
      have hx3 : (0 ≤ x ∧ x < (n : Int)) ∨ x < 0 ∨ (n : Int) ≤ x := by omega
      refine AW.skip ?_
      refine hK9 _ _ _ ?_; clear hK9
      refine AW.seq fun K10 hK10 => ?_
      refine AW.block ?_
      refine AW.seq fun K11 hK11 => ?_
      refine AW.regionK 0 (fun _ => none) [0, 6, 7, 8, 15, 16, 17] [10] ?_
      simp only [go_sem, reduceIte, reduceCtorEq, zA, zM, zE, zL, zD, zS, zP, zB, zI, zR, ints_len, hgx]
      repeat with_reducible refine cj ?_ ?_
      all_goals try first | omega
      refine hK11 _ _ _ ?_; clear hK11
      refine AW.seq fun K12 hK12 => ?_
      refine AW.seq fun K13 hK13 => ?_
      have hD7 : ∀  (kk : Nat), K13 [(0, .int .i64 n), (6, .sl ⟨10, g, none⟩ 0 n none), (7, .int .i64 (k : Nat)), (8, .int .i64 x), (15, .rsl 1 (ints l)), (16, .int .i64 n), (17, .int .i64 (k : Nat)), (35, .bool (!eaOk n d x))] [(10, some ⟨g, v, 1, ints P⟩)] kk := by
        intro  kk
        refine hK13 _ _ _ ?_; clear hK13
        refine AW.cond rfl (by simp only [go_sem, reduceIte, reduceCtorEq, zA, zM, zE, zL, zD, zS, zP, zB, zI, zR]) ?_ ?_
        · intro hb
          try simp only [hB, decide_eq_true_eq, decide_eq_false_iff_not] at hb
          have hf : eaOk n d x = false := by revert hb; simp
          have hE2 : eachB n l = false := by
            rw [hE]
            cases e : eachGo n (List.replicate n false) l with
            | false => simp
            | true => rw [hat e] at hf; cases hf
          refine AW.seq fun K15 hK15 => ?_
          refine AW.regionK 0 (fun _ => none) [4, 5] [] ?_
          simp only [go_sem, reduceIte, reduceCtorEq, zA, zM, zE, zL, zD, zS, zP, zB, zI, zR, ints_len]
          repeat with_reducible refine cj ?_ ?_
          all_goals try first | omega
          refine hK15 _ _ _ ?_; clear hK15
          refine AW.ret ?_
          rw [← hQl1]
          rw [← hQr]
          simp only [go_sem, reduceIte, reduceCtorEq, zA, zM, zE, zL, zD, zS, zP, zB, zI, zR, ints_len]
          exact Wk.trans (Wk.tup2 (Wk.nil 1) (Wk.refl _)) (Wk.of_eq (by rw [hE2]; rfl))
        · intro hb
          try simp only [hB, decide_eq_true_eq, decide_eq_false_iff_not] at hb
          have hf : eaOk n d x = true := by revert hb; simp
          have hxr : 0 ≤ x ∧ x < (n : Int) := by
            unfold eaOk at hf
            simp only [Bool.and_eq_true, decide_eq_true_eq] at hf
            exact hf.1
          refine AW.skip ?_
          refine hK12 _ _ _ ?_; clear hK12
          refine AW.regionK 0 (fun _ => none) [0, 6, 15, 16, 17] [10] ?_
          simp only [go_sem, reduceIte, reduceCtorEq, zA, zM, zE, zL, zD, zS, zP, zB, zI, zR, ints_len, hgx, hbl, ints_upd, ← hps]
          repeat with_reducible refine cj ?_ ?_
          all_goals try first | omega
          refine hK10 _ _ _ ?_; clear hK10
          refine AW.regionK 0 (fun _ => none) [0, 6, 15, 16, 17] [10] ?_
          simp only [go_sem, reduceIte, reduceCtorEq, zA, zM, zE, zL, zD, zS, zP, zB, zI, zR, ints_len]
          repeat with_reducible refine cj ?_ ?_
          all_goals try first | omega
          rw [← hQl1]
          change Exists _
          refine ⟨_, ?hm, k + 1, ?_, ?_, rfl, ?henv, ?hstore, ?hst⟩
          case henv =>
            repeat' (first | rfl | refine env_cons ?_ ?_ | refine st_cons ?_ ?_ ?_ ?_ | refine int_eq ?_ | refine bool_eq ?_ | refine rsl_eq ?_ | refine osl_eq ?_ | refine sl_eq ?_ ?_ ?_ | refine ptr_eq ?_ ?_ ?_ | refine agg_eq ?_ | refine es_cons ?_ ?_ | refine row_cons ?_ ?_)
            all_goals (first | (simp; done) | omega | (simp; omega))
          case hstore =>
            repeat' (first | rfl | refine env_cons ?_ ?_ | refine st_cons ?_ ?_ ?_ ?_ | refine int_eq ?_ | refine bool_eq ?_ | refine rsl_eq ?_ | refine osl_eq ?_ | refine sl_eq ?_ ?_ ?_ | refine ptr_eq ?_ ?_ ?_ | refine agg_eq ?_ | refine es_cons ?_ ?_ | refine row_cons ?_ ?_)
            all_goals (first | (simp; done) | omega | (simp; omega))
          case hst =>
            exact ⟨by omega, by rw [hap]; simp [eachGo, hf]⟩
          case hm => omega
      rcases hx3 with hxr | hxr | hxr
      · -- region 7
        have hgx2 := hgd (by omega)
        obtain ⟨hp1, hp2, hp3⟩ := hpk (by omega)
        have hdp : (!decide (P.getD x.toNat 0 = 0)) = d.getD x.toNat false := by
          cases e : d.getD x.toNat false with
          | true => rw [e] at hp1; simpa using hp1.2 rfl
          | false => rw [e] at hp1; simpa using hp1
        have hea : (decide (x < 0) || decide ((n : Int) ≤ x) || !decide (P.getD x.toNat 0 = 0)) = !eaOk n d x := by
          rw [hdp]; unfold eaOk
          simp only [show ¬ x < 0 by omega, show ¬ (n : Int) ≤ x by omega, hxr.1, hxr.2, decide_true, decide_false, Bool.or_false, Bool.false_or, Bool.and_true, Bool.true_and, Bool.not_not]
        rw [← hea] at hD7
        refine AW.regionK 0 (fun _ => none) [0, 6, 7, 8, 15, 16, 17, 35] [10] ?_
        simp only [go_sem, reduceIte, reduceCtorEq, zA, zM, zE, zL, zD, zS, zP, zB, zI, zR, ints_len, hbl, hgx2]
        repeat with_reducible refine cj ?_ ?_
        all_goals try first | (first | (simp only [Bool.or_eq_true, decide_eq_true_eq]; omega) | (intro hh; refine ⟨hh, hh, ?_, ?_⟩ <;> (simp only [Bool.or_eq_false_iff, decide_eq_false_iff_not] at hh; omega)) | (intro hh; exfalso; simp only [Bool.or_eq_false_iff, decide_eq_false_iff_not] at hh; omega)) | (intros; (repeat' apply And.intro) <;> first | assumption | (first | (simp only [Bool.or_eq_true, decide_eq_true_eq]; omega) | (intro hh; refine ⟨hh, hh, ?_, ?_⟩ <;> (simp only [Bool.or_eq_false_iff, decide_eq_false_iff_not] at hh; omega)) | (intro hh; exfalso; simp only [Bool.or_eq_false_iff, decide_eq_false_iff_not] at hh; omega))) | omega | (intro hgd; exact absurd hgd (by decide)) | rfl | (simp only [go_sem, reduceIte, reduceCtorEq, zA, zM, zE, zL, zD, zS, zP, zB, zI, zR, ints_len, hbl, hgx2]; done) | (intro _hgd; simp_all [go_sem]; done)
        exact hD7 _
      · -- region 7
        have hgx2 := hgd (by omega)
        have hea : (decide (x < 0) || decide ((n : Int) ≤ x) || !decide (P.getD x.toNat 0 = 0)) = !eaOk n d x := by
          unfold eaOk
          simp only [hxr, show ¬ 0 ≤ x by omega, decide_true, decide_false, Bool.true_or, Bool.false_and, Bool.not_false]
        rw [← hea] at hD7
        refine AW.regionK 0 (fun _ => none) [0, 6, 7, 8, 15, 16, 17, 35] [10] ?_
        simp only [go_sem, reduceIte, reduceCtorEq, zA, zM, zE, zL, zD, zS, zP, zB, zI, zR, ints_len, hbl, hgx2]
        repeat with_reducible refine cj ?_ ?_
        all_goals try first | (first | (simp only [Bool.or_eq_true, decide_eq_true_eq]; omega) | (intro hh; refine ⟨hh, hh, ?_, ?_⟩ <;> (simp only [Bool.or_eq_false_iff, decide_eq_false_iff_not] at hh; omega)) | (intro hh; exfalso; simp only [Bool.or_eq_false_iff, decide_eq_false_iff_not] at hh; omega)) | (intros; (repeat' apply And.intro) <;> first | assumption | (first | (simp only [Bool.or_eq_true, decide_eq_true_eq]; omega) | (intro hh; refine ⟨hh, hh, ?_, ?_⟩ <;> (simp only [Bool.or_eq_false_iff, decide_eq_false_iff_not] at hh; omega)) | (intro hh; exfalso; simp only [Bool.or_eq_false_iff, decide_eq_false_iff_not] at hh; omega))) | omega | (intro hgd; exact absurd hgd (by decide)) | rfl | (simp only [go_sem, reduceIte, reduceCtorEq, zA, zM, zE, zL, zD, zS, zP, zB, zI, zR, ints_len, hbl, hgx2]; done) | (intro _hgd; simp_all [go_sem]; done)
        exact hD7 _
      · -- region 7
        have hgx2 : (ints P).getD x.toNat [] = [] := by rw [List.getD_eq_getElem?_getD, List.getElem?_eq_none (by omega)]; rfl
        have hea : true = !eaOk n d x := by
          unfold eaOk
          simp only [show ¬ x < (n : Int) by omega, decide_false, Bool.and_false, Bool.false_and, Bool.not_false]
        rw [← hea] at hD7
        refine AW.regionK 0 (fun _ => none) [0, 6, 7, 8, 15, 16, 17, 35] [10] ?_
        simp only [go_sem, reduceIte, reduceCtorEq, zA, zM, zE, zL, zD, zS, zP, zB, zI, zR, ints_len, hbl, hgx2]
        repeat with_reducible refine cj ?_ ?_
        all_goals try first | (first | (simp only [Bool.or_eq_true, decide_eq_true_eq]; omega) | (intro hh; refine ⟨hh, hh, ?_, ?_⟩ <;> (simp only [Bool.or_eq_false_iff, decide_eq_false_iff_not] at hh; omega)) | (intro hh; exfalso; simp only [Bool.or_eq_false_iff, decide_eq_false_iff_not] at hh; omega)) | (intros; (repeat' apply And.intro) <;> first | assumption | (first | (simp only [Bool.or_eq_true, decide_eq_true_eq]; omega) | (intro hh; refine ⟨hh, hh, ?_, ?_⟩ <;> (simp only [Bool.or_eq_false_iff, decide_eq_false_iff_not] at hh; omega)) | (intro hh; exfalso; simp only [Bool.or_eq_false_iff, decide_eq_false_iff_not] at hh; omega))) | omega | (intro hgd; exact absurd hgd (by decide)) | rfl | (simp only [go_sem, reduceIte, reduceCtorEq, zA, zM, zE, zL, zD, zS, zP, zB, zI, zR, ints_len, hbl, hgx2]; done) | (intro _hgd; simp_all [go_sem]; done)
        exact hD7 _
    · intro hb
      try simp only [hB, decide_eq_true_eq, decide_eq_false_iff_not] at hb
      have hkn : n = k := by omega
      subst hkn
      rw [List.take_of_length_le (by omega)] at hall
      have hE2 : eachB n l = true := by rw [hE, hall, hln]; simp
      have htp : (plI n l n).take n = plI n l n := List.take_of_length_le (by omega)
      refine AW.keep [6] [10] ?_
      try simp only [go_sem, reduceIte, reduceCtorEq, zA, zM, zE, zL, zD, zS, zP, zB, zI, zR]
      refine AW.exit ?_
      rw [← hQl1]
      refine hK6 _ _ _ ?_; clear hK6
      refine AW.seq fun K16 hK16 => ?_
      refine AW.regionK 0 (fun _ => none) [4, 5] [10] ?_
      simp only [go_sem, reduceIte, reduceCtorEq, zA, zM, zE, zL, zD, zS, zP, zB, zI, zR, ints_len]
      repeat with_reducible refine cj ?_ ?_
      all_goals try first | omega
      refine hK16 _ _ _ ?_; clear hK16
      refine AW.ret ?_
      rw [← hQr]
      simp only [go_sem, reduceIte, reduceCtorEq, zA, zM, zE, zL, zD, zS, zP, zB, zI, zR, ints_len]
      exact Wk.of_eq (by rw [hE2, htp]; rfl)
end Go.Proofs.X

namespace Go.Proofs.X
open Go.AM Go
set_option maxRecDepth 100000
set_option maxHeartbeats 4000000
theorem meet_e (n : Int) (ls : List (List Int)) (hl : ls.length ≤ 9223372036854775807) (e : Int) (he : ((n < 0 ∨ 512 < n) ∧ e = 2) ∨ (¬ (n < 0 ∨ 512 < n) ∧ ls.length = 0 ∧ e = 7) ∨ (¬ (n < 0 ∨ 512 < n) ∧ 100 < ls.length ∧ e = 5)) : Reads Tryd.prog 32 false [.int .i64 n, .rsl 1 (lisR ls)] (.tup [.agg [.rsl 2 []], .int .i64 e]) := by
  refine Reads.body (rs := [.cell 4 24, .tmp 5]) Tryd.func32 rfl Tryd.ntmps32 rfl (by simp) ?_
  generalize hQr : retQ _ _ _ = Qr
  refine AW.seq fun K1 hK1 => ?_
  refine AW.regionK 0 (fun _ => none) [0, 1, 4] [4] ?_
  simp only [go_sem, reduceIte, reduceCtorEq, zA, zM, zE, zL, zD, zS, zP, zB, zI, zR, lisR_len]
  repeat with_reducible refine cj ?_ ?_
  all_goals try first | omega
  refine hK1 _ _ _ ?_; clear hK1
  refine AW.seq fun K2 hK2 => ?_
  refine AW.block ?_
  refine AW.seq fun K3 hK3 => ?_
  refine AW.regionK 0 (fun _ => none) [0, 1, 4, 17] [4] ?_
  simp only [go_sem, reduceIte, reduceCtorEq, zA, zM, zE, zL, zD, zS, zP, zB, zI, zR, lisR_len]
  repeat with_reducible refine cj ?_ ?_
  all_goals try first | omega | (intros; (repeat' apply And.intro) <;> first | assumption | omega | decide) | (intro hgd; exact absurd hgd (by decide)) | rfl | (simp only [go_sem, reduceIte, reduceCtorEq, zA, zM, zE, zL, zD, zS, zP, zB, zI, zR, lisR_len]; done) | (intro _hgd; simp_all [go_sem]; done)
  refine hK3 _ _ _ ?_; clear hK3
  refine AW.cond rfl (by simp only [go_sem, reduceIte, reduceCtorEq, zA, zM, zE, zL, zD, zS, zP, zB, zI, zR]) ?_ ?_
  · intro hb
    try simp only [hB, decide_eq_true_eq, decide_eq_false_iff_not] at hb
    refine AW.seq fun K4 hK4 => ?_
    refine AW.regionK 0 (fun _ => none) [4, 5] [4] ?_
    simp only [go_sem, reduceIte, reduceCtorEq, zA, zM, zE, zL, zD, zS, zP, zB, zI, zR, lisR_len]
    repeat with_reducible refine cj ?_ ?_
    all_goals try first | omega
    refine hK4 _ _ _ ?_; clear hK4
    refine AW.ret ?_
    rw [← hQr]
    simp only [go_sem, reduceIte, reduceCtorEq, zA, zM, zE, zL, zD, zS, zP, zB, zI, zR, lisR_len]
    exact Wk.tup2 (Wk.agg1 (Wk.nil 2)) (Wk.of_eq (by rw [show e = 2 by omega]))
  · intro hb
    try simp only [hB, decide_eq_true_eq, decide_eq_false_iff_not] at hb
    refine AW.seq fun K5 hK5 => ?_
    refine AW.regionK 0 (fun _ => none) [0, 1, 4, 25] [4] ?_
    simp only [go_sem, reduceIte, reduceCtorEq, zA, zM, zE, zL, zD, zS, zP, zB, zI, zR, lisR_len]
    repeat with_reducible refine cj ?_ ?_
    all_goals try first | omega
    refine hK5 _ _ _ ?_; clear hK5
    refine AW.cond rfl (by simp only [go_sem, reduceIte, reduceCtorEq, zA, zM, zE, zL, zD, zS, zP, zB, zI, zR]) ?_ ?_
    · intro hb
      try simp only [hB, decide_eq_true_eq, decide_eq_false_iff_not] at hb
      refine AW.seq fun K6 hK6 => ?_
      refine AW.regionK 0 (fun _ => none) [4, 5] [4] ?_
      simp only [go_sem, reduceIte, reduceCtorEq, zA, zM, zE, zL, zD, zS, zP, zB, zI, zR, lisR_len]
      repeat with_reducible refine cj ?_ ?_
      all_goals try first | omega
      refine hK6 _ _ _ ?_; clear hK6
      refine AW.ret ?_
      rw [← hQr]
      simp only [go_sem, reduceIte, reduceCtorEq, zA, zM, zE, zL, zD, zS, zP, zB, zI, zR, lisR_len]
      exact Wk.tup2 (Wk.agg1 (Wk.nil 2)) (Wk.of_eq (by rw [show e = 7 by omega]))
    · intro hb
      try simp only [hB, decide_eq_true_eq, decide_eq_false_iff_not] at hb
      refine AW.seq fun K7 hK7 => ?_
      refine AW.regionK 0 (fun _ => none) [0, 1, 4, 30] [4] ?_
      simp only [go_sem, reduceIte, reduceCtorEq, zA, zM, zE, zL, zD, zS, zP, zB, zI, zR, lisR_len]
      repeat with_reducible refine cj ?_ ?_
      all_goals try first | omega
      refine hK7 _ _ _ ?_; clear hK7
      refine AW.cond rfl (by simp only [go_sem, reduceIte, reduceCtorEq, zA, zM, zE, zL, zD, zS, zP, zB, zI, zR]) ?_ ?_
      · intro hb
        try simp only [hB, decide_eq_true_eq, decide_eq_false_iff_not] at hb
        refine AW.seq fun K8 hK8 => ?_
        refine AW.regionK 0 (fun _ => none) [4, 5] [4] ?_
        simp only [go_sem, reduceIte, reduceCtorEq, zA, zM, zE, zL, zD, zS, zP, zB, zI, zR, lisR_len]
        repeat with_reducible refine cj ?_ ?_
        all_goals try first | omega
        refine hK8 _ _ _ ?_; clear hK8
        refine AW.ret ?_
        rw [← hQr]
        simp only [go_sem, reduceIte, reduceCtorEq, zA, zM, zE, zL, zD, zS, zP, zB, zI, zR, lisR_len]
        exact Wk.tup2 (Wk.agg1 (Wk.nil 2)) (Wk.of_eq (by rw [show e = 5 by omega]))
      · intro hb
        try simp only [hB, decide_eq_true_eq, decide_eq_false_iff_not] at hb
        exfalso; omega
theorem meet_x (n : Nat) (hn : n ≤ 512) (ls : List (List Int)) (h1 : 1 ≤ ls.length) (h2 : ls.length ≤ 100) (hle : ∀ x ∈ ls, x.length ≤ 9223372036854775807) (hx : ls.all (eachB n) = false) : Reads Tryd.prog 32 false [.int .i64 n, .rsl 1 (lisR ls)] (.tup [.agg [.rsl 2 []], .int .i64 11]) := by
  have hbad := hx
  have hpl := fun x hx => places_r n hn x hx
  refine Reads.body (rs := [.cell 4 24, .tmp 5]) Tryd.func32 rfl Tryd.ntmps32 rfl (by simp) ?_
  generalize hQr : retQ _ _ _ = Qr
  refine AW.seq fun K1 hK1 => ?_
  refine AW.regionK 0 (fun _ => none) [0, 1, 4] [4] ?_
  simp only [go_sem, reduceIte, reduceCtorEq, zA, zM, zE, zL, zD, zS, zP, zB, zI, zR, lisR_len]
  repeat with_reducible refine cj ?_ ?_
  all_goals try first | omega
  refine hK1 _ _ _ ?_; clear hK1
  refine AW.seq fun K2 hK2 => ?_
  refine AW.block ?_
  refine AW.seq fun K3 hK3 => ?_
  refine AW.regionK 0 (fun _ => none) [0, 1, 4, 17] [4] ?_
  simp only [go_sem, reduceIte, reduceCtorEq, zA, zM, zE, zL, zD, zS, zP, zB, zI, zR, lisR_len]
  repeat with_reducible refine cj ?_ ?_
  all_goals try first | omega | (intros; (repeat' apply And.intro) <;> first | assumption | omega | decide) | (intro hgd; exact absurd hgd (by decide)) | rfl | (simp only [go_sem, reduceIte, reduceCtorEq, zA, zM, zE, zL, zD, zS, zP, zB, zI, zR, lisR_len]; done) | (intro _hgd; simp_all [go_sem]; done)
  refine hK3 _ _ _ ?_; clear hK3
  refine AW.cond rfl (by simp only [go_sem, reduceIte, reduceCtorEq, zA, zM, zE, zL, zD, zS, zP, zB, zI, zR]) ?_ ?_
  · intro hb
    try simp only [hB, decide_eq_true_eq, decide_eq_false_iff_not] at hb
    exfalso; omega
  · intro hb
    try simp only [hB, decide_eq_true_eq, decide_eq_false_iff_not] at hb
    refine AW.seq fun K4 hK4 => ?_
    refine AW.regionK 0 (fun _ => none) [0, 1, 4, 25] [4] ?_
    simp only [go_sem, reduceIte, reduceCtorEq, zA, zM, zE, zL, zD, zS, zP, zB, zI, zR, lisR_len]
    repeat with_reducible refine cj ?_ ?_
    all_goals try first | omega
    refine hK4 _ _ _ ?_; clear hK4
    refine AW.cond rfl (by simp only [go_sem, reduceIte, reduceCtorEq, zA, zM, zE, zL, zD, zS, zP, zB, zI, zR]) ?_ ?_
    · intro hb
      try simp only [hB, decide_eq_true_eq, decide_eq_false_iff_not] at hb
      exfalso; omega
    · intro hb
      try simp only [hB, decide_eq_true_eq, decide_eq_false_iff_not] at hb
      refine AW.seq fun K5 hK5 => ?_
      refine AW.regionK 0 (fun _ => none) [0, 1, 4, 30] [4] ?_
      simp only [go_sem, reduceIte, reduceCtorEq, zA, zM, zE, zL, zD, zS, zP, zB, zI, zR, lisR_len]
      repeat with_reducible refine cj ?_ ?_
      all_goals try first | omega
      refine hK5 _ _ _ ?_; clear hK5
      refine AW.cond rfl (by simp only [go_sem, reduceIte, reduceCtorEq, zA, zM, zE, zL, zD, zS, zP, zB, zI, zR]) ?_ ?_
      · intro hb
        try simp only [hB, decide_eq_true_eq, decide_eq_false_iff_not] at hb
        exfalso; omega
      · intro hb
        try simp only [hB, decide_eq_true_eq, decide_eq_false_iff_not] at hb
        refine AW.skip ?_
        refine hK2 _ _ _ ?_; clear hK2
        refine AW.seq fun K6 hK6 => ?_
        refine AW.regionK 0 (fun _ => none) [0, 1, 4, 6] [4] ?_
        simp only [go_sem, reduceIte, reduceCtorEq, zA, zM, zE, zL, zD, zS, zP, zB, zI, zR, lisR_len]
        repeat with_reducible refine cj ?_ ?_
        all_goals try first | omega
        refine hK6 _ _ _ ?_; clear hK6
        refine AW.nilOwn 6 200 1 rfl ?_
        refine AW.keep [0, 1, 4, 6] [4, 200] ?_
        simp only [go_sem, reduceIte, zE]
        refine AW.seq fun K7 hK7 => ?_
        refine AW.seq fun K8 hK8 => ?_
        refine AW.regionK 0 (fun _ => none) [0, 4, 6, 35, 36, 37] [4, 200] ?_
        simp only [go_sem, reduceIte, reduceCtorEq, zA, zM, zE, zL, zD, zS, zP, zB, zI, zR, lisR_len]
        repeat with_reducible refine cj ?_ ?_
        all_goals try first | omega
        refine hK8 _ _ _ ?_; clear hK8
        refine AW.block ?_
        refine AW.loopE (fun mm ee ss kk => ∃ (k g4 v4 g v : Nat), ls.length - k = mm ∧ ee = [(0, .int .i64 n), (4, .ptr ⟨4, g4, none⟩ 0 0), (6, .sl ⟨200, g, none⟩ 0 k none), (35, .rsl 1 (lisR ls)), (36, .int .i64 ls.length), (37, .int .i64 (k : Nat))] ∧ ss = [(4, some ⟨g4, v4, 1, [[.nilsl]]⟩), (200, some ⟨g, v, 1, lisR ((ls.take k).map fun l => plI n l n)⟩)] ∧ (k ≤ ls.length ∧ (ls.take k).all (eachB n) = true)) ?_ ?_
        · refine ⟨_, 0, ?_, ?_, ?_, ?_, rfl, ?henv, ?hstore, ?hst⟩
          case henv =>
            repeat' (first | rfl | refine env_cons ?_ ?_ | refine st_cons ?_ ?_ ?_ ?_ | refine int_eq ?_ | refine bool_eq ?_ | refine rsl_eq ?_ | refine osl_eq ?_ | refine sl_eq ?_ ?_ ?_ | refine ptr_eq ?_ ?_ ?_ | refine agg_eq ?_ | refine es_cons ?_ ?_ | refine row_cons ?_ ?_)
            all_goals (first | (simp; done) | omega | (simp; omega))
          case hstore =>
            repeat' (first | rfl | refine env_cons ?_ ?_ | refine st_cons ?_ ?_ ?_ ?_ | refine int_eq ?_ | refine bool_eq ?_ | refine rsl_eq ?_ | refine osl_eq ?_ | refine sl_eq ?_ ?_ ?_ | refine ptr_eq ?_ ?_ ?_ | refine agg_eq ?_ | refine es_cons ?_ ?_ | refine row_cons ?_ ?_)
            all_goals (first | (simp; done) | omega | (simp; omega))
          case hst =>
            exact ⟨Nat.zero_le _, rfl⟩
        rintro mm ee ss kk ⟨k, g4, v4, g, v, rfl, rfl, rfl, hI⟩
        generalize hQl1 : thenQ _ _ = Ql1
        obtain ⟨hk, hall⟩ := hI
        refine AW.seq fun K9 hK9 => ?_
        refine AW.regionK 0 (fun _ => none) [0, 4, 6, 35, 36, 37, 38] [4, 200] ?_
        simp only [go_sem, reduceIte, reduceCtorEq, zA, zM, zE, zL, zD, zS, zP, zB, zI, zR, lisR_len]
        repeat with_reducible refine cj ?_ ?_
        all_goals try first | omega
        refine hK9 _ _ _ ?_; clear hK9
        refine AW.seq fun K10 hK10 => ?_
        refine AW.cond rfl (by simp only [go_sem, reduceIte, reduceCtorEq, zA, zM, zE, zL, zD, zS, zP, zB, zI, zR]) ?_ ?_
        · intro hb
          try simp only [hB, decide_eq_true_eq, decide_eq_false_iff_not] at hb
          obtain ⟨x, hx⟩ := getI (l := ls) (j := k) (by omega)
          have hgx : (lisR ls).getD k [] = [.rsl 1 (ints x)] := by simp [lisR, List.getD_eq_getElem?_getD, hx]
          have hats := all_take_succ (p := eachB n) hx
          have hxl := hle x (List.mem_of_getElem? hx)
          have hpx := hpl x hxl
          have hxm := List.mem_of_getElem? hx
          have hmk : (ls.take (k + 1)).map (fun l => plI n l n) = (ls.take k).map (fun l => plI n l n) ++ [plI n x n] := by rw [List.take_add_one, hx]; simp
          have htk : (lisR ((ls.take k).map fun l => plI n l n)).take k = lisR ((ls.take k).map fun l => plI n l n) := List.take_of_length_le (by rw [lisR_len]; simp; omega)
          have hap : lisR ((ls.take k).map fun l => plI n l n) ++ [[.rsl 1 (ints (plI n x n))]] = lisR ((ls.take k).map (fun l => plI n l n) ++ [plI n x n]) := by simp [lisR]
          refine AW.skip ?_
          refine hK10 _ _ _ ?_; clear hK10
          refine AW.seq fun K11 hK11 => ?_
          refine AW.block ?_
          refine AW.seq fun K12 hK12 => ?_
          refine AW.regionK 0 (fun _ => none) [0, 4, 6, 8, 35, 36, 37] [4, 200] ?_
          simp only [go_sem, reduceIte, reduceCtorEq, zA, zM, zE, zL, zD, zS, zP, zB, zI, zR, lisR_len, hgx]
          repeat with_reducible refine cj ?_ ?_
          all_goals try first | omega
          refine hK12 _ _ _ ?_; clear hK12
          refine AW.seq fun K13 hK13 => ?_
          refine AW.regionK 0 (fun ii => if ii = 2 then some (.reads false (.tup [.rsl 1 (ints (if eachB n x then plI n x n else [])), .bool (eachB n x)])) else none) [0, 4, 6, 9, 10, 35, 36, 37] [4, 200] ?_
          simp only [go_sem, reduceIte, reduceCtorEq, zA, zM, zE, zL, zD, zS, zP, zB, zI, zR, lisR_len]
          repeat with_reducible refine cj ?_ ?_
          all_goals try first | (exact hpx) | omega | exact ent (by kernel_rfl)
          refine hK13 _ _ _ ?_; clear hK13
          refine AW.seq fun K14 hK14 => ?_
          refine AW.seq fun K15 hK15 => ?_
          refine AW.regionK 0 (fun _ => none) [0, 4, 6, 9, 35, 36, 37, 48] [4, 200] ?_
          simp only [go_sem, reduceIte, reduceCtorEq, zA, zM, zE, zL, zD, zS, zP, zB, zI, zR, lisR_len]
          repeat with_reducible refine cj ?_ ?_
          all_goals try first | omega
          refine hK15 _ _ _ ?_; clear hK15
          refine AW.cond rfl (by simp only [go_sem, reduceIte, reduceCtorEq, zA, zM, zE, zL, zD, zS, zP, zB, zI, zR]) ?_ ?_
          · intro hb
            try simp only [hB, decide_eq_true_eq, decide_eq_false_iff_not] at hb
            refine AW.seq fun K16 hK16 => ?_
            refine AW.regionK 0 (fun _ => none) [4, 5] [4] ?_
            simp only [go_sem, reduceIte, reduceCtorEq, zA, zM, zE, zL, zD, zS, zP, zB, zI, zR, lisR_len]
            repeat with_reducible refine cj ?_ ?_
            all_goals try first | omega
            refine hK16 _ _ _ ?_; clear hK16
            refine AW.ret ?_
            rw [← hQl1]
            rw [← hQr]
            simp only [go_sem, reduceIte, reduceCtorEq, zA, zM, zE, zL, zD, zS, zP, zB, zI, zR, lisR_len]
            exact Wk.tup2 (Wk.agg1 (Wk.nil 2)) (Wk.refl _)
          · intro hb
            try simp only [hB, decide_eq_true_eq, decide_eq_false_iff_not] at hb
            have hex : eachB n x = true := by simpa using hb
            simp only [hex, if_true]
            refine AW.skip ?_
            refine hK14 _ _ _ ?_; clear hK14
            refine AW.regionK 0 (fun _ => none) [0, 4, 6, 35, 36, 37] [4, 200] ?_
            simp only [go_sem, reduceIte, reduceCtorEq, zA, zM, zE, zL, zD, zS, zP, zB, zI, zR, lisR_len, htk, hap]
            repeat with_reducible refine cj ?_ ?_
            all_goals try first | omega | (simp [scP, scalar]; done) | exact scP_words _ | exact scP_ints _ | exact scP_bools _
            refine hK11 _ _ _ ?_; clear hK11
            refine AW.regionK 0 (fun _ => none) [0, 4, 6, 35, 36, 37] [4, 200] ?_
            simp only [go_sem, reduceIte, reduceCtorEq, zA, zM, zE, zL, zD, zS, zP, zB, zI, zR, lisR_len]
            repeat with_reducible refine cj ?_ ?_
            all_goals try first | omega
            rw [← hQl1]
            change Exists _
            refine ⟨_, ?hm, k + 1, ?_, ?_, ?_, ?_, rfl, ?henv, ?hstore, ?hst⟩
            case henv =>
              repeat' (first | rfl | refine env_cons ?_ ?_ | refine st_cons ?_ ?_ ?_ ?_ | refine int_eq ?_ | refine bool_eq ?_ | refine rsl_eq ?_ | refine osl_eq ?_ | refine sl_eq ?_ ?_ ?_ | refine ptr_eq ?_ ?_ ?_ | refine agg_eq ?_ | refine es_cons ?_ ?_ | refine row_cons ?_ ?_)
              all_goals (first | (simp; done) | omega | (simp; omega))
            case hstore =>
              repeat' (first | rfl | refine env_cons ?_ ?_ | refine st_cons ?_ ?_ ?_ ?_ | refine int_eq ?_ | refine bool_eq ?_ | refine rsl_eq ?_ | refine osl_eq ?_ | refine sl_eq ?_ ?_ ?_ | refine ptr_eq ?_ ?_ ?_ | refine agg_eq ?_ | refine es_cons ?_ ?_ | refine row_cons ?_ ?_)
              all_goals (rw [hmk])
            case hst =>
              exact ⟨by omega, by rw [hats, hall, hex]; rfl⟩
            case hm => omega
        · intro hb
          try simp only [hB, decide_eq_true_eq, decide_eq_false_iff_not] at hb
          exfalso; rw [List.take_of_length_le (by omega)] at hall; rw [hall] at hbad; cases hbad
theorem meet_g (n : Nat) (hn : n ≤ 512) (ls : List (List Int)) (h1 : 1 ≤ ls.length) (h2 : ls.length ≤ 100) (hle : ∀ x ∈ ls, x.length ≤ 9223372036854775807) (hx : ls.all (eachB n) = true) : Reads Tryd.prog 32 false [.int .i64 n, .rsl 1 (lisR ls)] (.tup [relB (meetT n ls), .int .i64 0]) := by
  have hgood := hx
  have hpl := fun x hx => places_r n hn x hx
  have hml : (ls.map fun l => plI n l n).length = ls.length := by simp
  have hme : ∀ x ∈ ls.map (fun l => plI n l n), x.length = n := fun x hx => by obtain ⟨l, _, rfl⟩ := List.mem_map.1 hx; exact plI_len n l n
  have hct := fun i j hi hj => Reads.flat (ctgta_r i j n (ls.map fun l => plI n l n) (by rw [hml]; omega) hi hj hme) rfl
  have hmF : ∀ i j, meetF n ls i j = (!decide (i = j) && !(ls.map fun l => plI n l n).any (gtA i j)) := fun _ _ => rfl
  have hof := fun (l : List Int) hl hr => of_r (n : Int) l (by omega) (by omega) hl hr
  have hmt : meetT n ls = tabF n (meetF n ls) := rfl
  have hsq := tabF_sq n (meetF n ls)
  have hTl : (meetT n ls).length = n := hsq.len
  have hTr : ∀ i, i < n → rowT (meetT n ls) i = setR n (meetF n ls i) := fun i hi => rowT_tabF hi
  unfold relB
  refine Reads.body (rs := [.cell 4 24, .tmp 5]) Tryd.func32 rfl Tryd.ntmps32 rfl (by simp) ?_
  generalize hQr : retQ _ _ _ = Qr
  refine AW.seq fun K1 hK1 => ?_
  refine AW.regionK 0 (fun _ => none) [0, 1, 4] [4] ?_
  simp only [go_sem, reduceIte, reduceCtorEq, zA, zM, zE, zL, zD, zS, zP, zB, zI, zR, lisR_len]
  repeat with_reducible refine cj ?_ ?_
  all_goals try first | omega
  refine hK1 _ _ _ ?_; clear hK1
  refine AW.seq fun K2 hK2 => ?_
  refine AW.block ?_
  refine AW.seq fun K3 hK3 => ?_
  refine AW.regionK 0 (fun _ => none) [0, 1, 4, 17] [4] ?_
  simp only [go_sem, reduceIte, reduceCtorEq, zA, zM, zE, zL, zD, zS, zP, zB, zI, zR, lisR_len]
  repeat with_reducible refine cj ?_ ?_
  all_goals try first | omega | (intros; (repeat' apply And.intro) <;> first | assumption | omega | decide) | (intro hgd; exact absurd hgd (by decide)) | rfl | (simp only [go_sem, reduceIte, reduceCtorEq, zA, zM, zE, zL, zD, zS, zP, zB, zI, zR, lisR_len]; done) | (intro _hgd; simp_all [go_sem]; done)
  refine hK3 _ _ _ ?_; clear hK3
  refine AW.cond rfl (by simp only [go_sem, reduceIte, reduceCtorEq, zA, zM, zE, zL, zD, zS, zP, zB, zI, zR]) ?_ ?_
  · intro hb
    try simp only [hB, decide_eq_true_eq, decide_eq_false_iff_not] at hb
    exfalso; omega
  · intro hb
    try simp only [hB, decide_eq_true_eq, decide_eq_false_iff_not] at hb
    refine AW.seq fun K4 hK4 => ?_
    refine AW.regionK 0 (fun _ => none) [0, 1, 4, 25] [4] ?_
    simp only [go_sem, reduceIte, reduceCtorEq, zA, zM, zE, zL, zD, zS, zP, zB, zI, zR, lisR_len]
    repeat with_reducible refine cj ?_ ?_
    all_goals try first | omega
    refine hK4 _ _ _ ?_; clear hK4
    refine AW.cond rfl (by simp only [go_sem, reduceIte, reduceCtorEq, zA, zM, zE, zL, zD, zS, zP, zB, zI, zR]) ?_ ?_
    · intro hb
      try simp only [hB, decide_eq_true_eq, decide_eq_false_iff_not] at hb
      exfalso; omega
    · intro hb
      try simp only [hB, decide_eq_true_eq, decide_eq_false_iff_not] at hb
      refine AW.seq fun K5 hK5 => ?_
      refine AW.regionK 0 (fun _ => none) [0, 1, 4, 30] [4] ?_
      simp only [go_sem, reduceIte, reduceCtorEq, zA, zM, zE, zL, zD, zS, zP, zB, zI, zR, lisR_len]
      repeat with_reducible refine cj ?_ ?_
      all_goals try first | omega
      refine hK5 _ _ _ ?_; clear hK5
      refine AW.cond rfl (by simp only [go_sem, reduceIte, reduceCtorEq, zA, zM, zE, zL, zD, zS, zP, zB, zI, zR]) ?_ ?_
      · intro hb
        try simp only [hB, decide_eq_true_eq, decide_eq_false_iff_not] at hb
        exfalso; omega
      · intro hb
        try simp only [hB, decide_eq_true_eq, decide_eq_false_iff_not] at hb
        refine AW.skip ?_
        refine hK2 _ _ _ ?_; clear hK2
        refine AW.seq fun K6 hK6 => ?_
        refine AW.regionK 0 (fun _ => none) [0, 1, 4, 6] [4] ?_
        simp only [go_sem, reduceIte, reduceCtorEq, zA, zM, zE, zL, zD, zS, zP, zB, zI, zR, lisR_len]
        repeat with_reducible refine cj ?_ ?_
        all_goals try first | omega
        refine hK6 _ _ _ ?_; clear hK6
        refine AW.nilOwn 6 200 1 rfl ?_
        refine AW.keep [0, 1, 4, 6] [4, 200] ?_
        simp only [go_sem, reduceIte, zE]
        refine AW.seq fun K7 hK7 => ?_
        refine AW.seq fun K8 hK8 => ?_
        refine AW.regionK 0 (fun _ => none) [0, 4, 6, 35, 36, 37] [4, 200] ?_
        simp only [go_sem, reduceIte, reduceCtorEq, zA, zM, zE, zL, zD, zS, zP, zB, zI, zR, lisR_len]
        repeat with_reducible refine cj ?_ ?_
        all_goals try first | omega
        refine hK8 _ _ _ ?_; clear hK8
        refine AW.block ?_
        refine AW.loopE (fun mm ee ss kk => ∃ (k g4 v4 g v : Nat), ls.length - k = mm ∧ ee = [(0, .int .i64 n), (4, .ptr ⟨4, g4, none⟩ 0 0), (6, .sl ⟨200, g, none⟩ 0 k none), (35, .rsl 1 (lisR ls)), (36, .int .i64 ls.length), (37, .int .i64 (k : Nat))] ∧ ss = [(4, some ⟨g4, v4, 1, [[.nilsl]]⟩), (200, some ⟨g, v, 1, lisR ((ls.take k).map fun l => plI n l n)⟩)] ∧ (k ≤ ls.length ∧ (ls.take k).all (eachB n) = true)) ?_ ?_
        · refine ⟨_, 0, ?_, ?_, ?_, ?_, rfl, ?henv, ?hstore, ?hst⟩
          case henv =>
            repeat' (first | rfl | refine env_cons ?_ ?_ | refine st_cons ?_ ?_ ?_ ?_ | refine int_eq ?_ | refine bool_eq ?_ | refine rsl_eq ?_ | refine osl_eq ?_ | refine sl_eq ?_ ?_ ?_ | refine ptr_eq ?_ ?_ ?_ | refine agg_eq ?_ | refine es_cons ?_ ?_ | refine row_cons ?_ ?_)
            all_goals (first | (simp; done) | omega | (simp; omega))
          case hstore =>
            repeat' (first | rfl | refine env_cons ?_ ?_ | refine st_cons ?_ ?_ ?_ ?_ | refine int_eq ?_ | refine bool_eq ?_ | refine rsl_eq ?_ | refine osl_eq ?_ | refine sl_eq ?_ ?_ ?_ | refine ptr_eq ?_ ?_ ?_ | refine agg_eq ?_ | refine es_cons ?_ ?_ | refine row_cons ?_ ?_)
            all_goals (first | (simp; done) | omega | (simp; omega))
          case hst =>
            exact ⟨Nat.zero_le _, rfl⟩
        rintro mm ee ss kk ⟨k, g4, v4, g, v, rfl, rfl, rfl, hI⟩
        generalize hQl1 : thenQ _ _ = Ql1
        obtain ⟨hk, hall⟩ := hI
        refine AW.seq fun K9 hK9 => ?_
        refine AW.regionK 0 (fun _ => none) [0, 4, 6, 35, 36, 37, 38] [4, 200] ?_
        simp only [go_sem, reduceIte, reduceCtorEq, zA, zM, zE, zL, zD, zS, zP, zB, zI, zR, lisR_len]
        repeat with_reducible refine cj ?_ ?_
        all_goals try first | omega
        refine hK9 _ _ _ ?_; clear hK9
        refine AW.seq fun K10 hK10 => ?_
        refine AW.cond rfl (by simp only [go_sem, reduceIte, reduceCtorEq, zA, zM, zE, zL, zD, zS, zP, zB, zI, zR]) ?_ ?_
        · intro hb
          try simp only [hB, decide_eq_true_eq, decide_eq_false_iff_not] at hb
          obtain ⟨x, hx⟩ := getI (l := ls) (j := k) (by omega)
          have hgx : (lisR ls).getD k [] = [.rsl 1 (ints x)] := by simp [lisR, List.getD_eq_getElem?_getD, hx]
          have hats := all_take_succ (p := eachB n) hx
          have hxl := hle x (List.mem_of_getElem? hx)
          have hpx := hpl x hxl
          have hxm := List.mem_of_getElem? hx
          have hmk : (ls.take (k + 1)).map (fun l => plI n l n) = (ls.take k).map (fun l => plI n l n) ++ [plI n x n] := by rw [List.take_add_one, hx]; simp
          have htk : (lisR ((ls.take k).map fun l => plI n l n)).take k = lisR ((ls.take k).map fun l => plI n l n) := List.take_of_length_le (by rw [lisR_len]; simp; omega)
          have hap : lisR ((ls.take k).map fun l => plI n l n) ++ [[.rsl 1 (ints (plI n x n))]] = lisR ((ls.take k).map (fun l => plI n l n) ++ [plI n x n]) := by simp [lisR]
          refine AW.skip ?_
          refine hK10 _ _ _ ?_; clear hK10
          refine AW.seq fun K11 hK11 => ?_
          refine AW.block ?_
          refine AW.seq fun K12 hK12 => ?_
          refine AW.regionK 0 (fun _ => none) [0, 4, 6, 8, 35, 36, 37] [4, 200] ?_
          simp only [go_sem, reduceIte, reduceCtorEq, zA, zM, zE, zL, zD, zS, zP, zB, zI, zR, lisR_len, hgx]
          repeat with_reducible refine cj ?_ ?_
          all_goals try first | omega
          refine hK12 _ _ _ ?_; clear hK12
          refine AW.seq fun K13 hK13 => ?_
          refine AW.regionK 0 (fun ii => if ii = 2 then some (.reads false (.tup [.rsl 1 (ints (if eachB n x then plI n x n else [])), .bool (eachB n x)])) else none) [0, 4, 6, 9, 10, 35, 36, 37] [4, 200] ?_
          simp only [go_sem, reduceIte, reduceCtorEq, zA, zM, zE, zL, zD, zS, zP, zB, zI, zR, lisR_len]
          repeat with_reducible refine cj ?_ ?_
          all_goals try first | (exact hpx) | omega | exact ent (by kernel_rfl)
          refine hK13 _ _ _ ?_; clear hK13
          refine AW.seq fun K14 hK14 => ?_
          refine AW.seq fun K15 hK15 => ?_
          refine AW.regionK 0 (fun _ => none) [0, 4, 6, 9, 35, 36, 37, 48] [4, 200] ?_
          simp only [go_sem, reduceIte, reduceCtorEq, zA, zM, zE, zL, zD, zS, zP, zB, zI, zR, lisR_len]
          repeat with_reducible refine cj ?_ ?_
          all_goals try first | omega
          refine hK15 _ _ _ ?_; clear hK15
          refine AW.cond rfl (by simp only [go_sem, reduceIte, reduceCtorEq, zA, zM, zE, zL, zD, zS, zP, zB, zI, zR]) ?_ ?_
          · intro hb
            try simp only [hB, decide_eq_true_eq, decide_eq_false_iff_not] at hb
            exfalso; have hex : eachB n x = true := (List.all_eq_true.1 hgood) x hxm
            rw [hex] at hb; simp at hb
          · intro hb
            try simp only [hB, decide_eq_true_eq, decide_eq_false_iff_not] at hb
            have hex : eachB n x = true := by simpa using hb
            simp only [hex, if_true]
            refine AW.skip ?_
            refine hK14 _ _ _ ?_; clear hK14
            refine AW.regionK 0 (fun _ => none) [0, 4, 6, 35, 36, 37] [4, 200] ?_
            simp only [go_sem, reduceIte, reduceCtorEq, zA, zM, zE, zL, zD, zS, zP, zB, zI, zR, lisR_len, htk, hap]
            repeat with_reducible refine cj ?_ ?_
            all_goals try first | omega | (simp [scP, scalar]; done) | exact scP_words _ | exact scP_ints _ | exact scP_bools _
            refine hK11 _ _ _ ?_; clear hK11
            refine AW.regionK 0 (fun _ => none) [0, 4, 6, 35, 36, 37] [4, 200] ?_
            simp only [go_sem, reduceIte, reduceCtorEq, zA, zM, zE, zL, zD, zS, zP, zB, zI, zR, lisR_len]
            repeat with_reducible refine cj ?_ ?_
            all_goals try first | omega
            rw [← hQl1]
            change Exists _
            refine ⟨_, ?hm, k + 1, ?_, ?_, ?_, ?_, rfl, ?henv, ?hstore, ?hst⟩
            case henv =>
              repeat' (first | rfl | refine env_cons ?_ ?_ | refine st_cons ?_ ?_ ?_ ?_ | refine int_eq ?_ | refine bool_eq ?_ | refine rsl_eq ?_ | refine osl_eq ?_ | refine sl_eq ?_ ?_ ?_ | refine ptr_eq ?_ ?_ ?_ | refine agg_eq ?_ | refine es_cons ?_ ?_ | refine row_cons ?_ ?_)
              all_goals (first | (simp; done) | omega | (simp; omega))
            case hstore =>
              repeat' (first | rfl | refine env_cons ?_ ?_ | refine st_cons ?_ ?_ ?_ ?_ | refine int_eq ?_ | refine bool_eq ?_ | refine rsl_eq ?_ | refine osl_eq ?_ | refine sl_eq ?_ ?_ ?_ | refine ptr_eq ?_ ?_ ?_ | refine agg_eq ?_ | refine es_cons ?_ ?_ | refine row_cons ?_ ?_)
              all_goals (rw [hmk])
            case hst =>
              exact ⟨by omega, by rw [hats, hall, (List.all_eq_true.1 hgood) x hxm]; rfl⟩
            case hm => omega
        · intro hb
          try simp only [hB, decide_eq_true_eq, decide_eq_false_iff_not] at hb
          have hkl : k = ls.length := by omega
          rw [hkl, List.take_of_length_le (Nat.le_refl _)]
          have htl : (lisR (ls.map fun l => plI n l n)).take ls.length = lisR (ls.map fun l => plI n l n) := List.take_of_length_le (by rw [lisR_len, hml]; omega)
          generalize hA : (ls.map fun l => plI n l n) = A at *
          refine AW.keep [0, 4, 6] [4, 200] ?_
          try simp only [go_sem, reduceIte, reduceCtorEq, zA, zM, zE, zL, zD, zS, zP, zB, zI, zR]
          refine AW.exit ?_
          rw [← hQl1]
          refine hK7 _ _ _ ?_; clear hK7
          refine AW.seq fun K16 hK16 => ?_
          refine AW.freezeK [200] [6] [0, 4] [4] ?_
          simp only [go_sem, reduceIte, zE, htl, vwc_lisR]
          refine AW.regionK 0 (fun _ => none) [0, 4, 6, 11] [4, 11] ?_
          simp only [go_sem, reduceIte, reduceCtorEq, zA, zM, zE, zL, zD, zS, zP, zB, zI, zR, lisR_len]
          repeat with_reducible refine cj ?_ ?_
          all_goals try first | omega
          refine hK16 _ _ _ ?_; clear hK16
          refine AW.seq fun K17 hK17 => ?_
          refine AW.seq fun K18 hK18 => ?_
          refine AW.regionK 0 (fun _ => none) [0, 4, 6, 11, 55, 56] [4, 11] ?_
          simp only [go_sem, reduceIte, reduceCtorEq, zA, zM, zE, zL, zD, zS, zP, zB, zI, zR, lisR_len]
          repeat with_reducible refine cj ?_ ?_
          all_goals try first | omega
          refine hK18 _ _ _ ?_; clear hK18
          refine AW.block ?_
          refine AW.nilCellK 11 0 0 201 2 ?_
          simp only [go_sem, reduceIte, zE]
          repeat refine cj ?_ ?_
          all_goals first | decide | skip
          refine AW.keep [0, 4, 6, 11, 55, 56] [4, 11, 201] ?_
          simp only [go_sem, reduceIte, zE]
          refine AW.loopE (fun mm ee ss kk => ∃ (i g4 v4 g11 v11 g v : Nat), n - i = mm ∧ ee = [(0, .int .i64 n), (4, .ptr ⟨4, g4, none⟩ 0 0), (6, .rsl 1 (lisR A)), (11, .ptr ⟨11, g11, none⟩ 0 0), (55, .int .i64 n), (56, .int .i64 (i : Nat))] ∧ ss = [(4, some ⟨g4, v4, 1, [[.nilsl]]⟩), (11, some ⟨g11, v11, 1, [[.sl ⟨201, g, none⟩ 0 i none]]⟩), (201, some ⟨g, v, 2, tabR ((meetT n ls).take i)⟩)] ∧ (i ≤ n)) ?_ ?_
          · refine ⟨_, 0, ?_, ?_, ?_, ?_, ?_, ?_, rfl, ?henv, ?hstore, ?hst⟩
            case henv =>
              repeat' (first | rfl | refine env_cons ?_ ?_ | refine st_cons ?_ ?_ ?_ ?_ | refine int_eq ?_ | refine bool_eq ?_ | refine rsl_eq ?_ | refine osl_eq ?_ | refine sl_eq ?_ ?_ ?_ | refine ptr_eq ?_ ?_ ?_ | refine agg_eq ?_ | refine es_cons ?_ ?_ | refine row_cons ?_ ?_)
              all_goals (first | (simp; done) | omega | (simp; omega))
            case hstore =>
              repeat' (first | rfl | refine env_cons ?_ ?_ | refine st_cons ?_ ?_ ?_ ?_ | refine int_eq ?_ | refine bool_eq ?_ | refine rsl_eq ?_ | refine osl_eq ?_ | refine sl_eq ?_ ?_ ?_ | refine ptr_eq ?_ ?_ ?_ | refine agg_eq ?_ | refine es_cons ?_ ?_ | refine row_cons ?_ ?_)
              all_goals (first | (simp; done) | omega | (simp; omega))
            case hst =>
              first | trivial | omega | (simp; done) | (simp; omega)
          rintro mm ee ss kk ⟨i, g4, v4, g11, v11, g, v, rfl, rfl, rfl, hI⟩
          generalize hQl2 : thenQ _ _ = Ql2
          refine AW.seq fun K19 hK19 => ?_
          refine AW.regionK 0 (fun _ => none) [0, 4, 6, 11, 55, 56, 57] [4, 11, 201] ?_
          simp only [go_sem, reduceIte, reduceCtorEq, zA, zM, zE, zL, zD, zS, zP, zB, zI, zR, lisR_len]
          repeat with_reducible refine cj ?_ ?_
          all_goals try first | omega
          refine hK19 _ _ _ ?_; clear hK19
          refine AW.seq fun K20 hK20 => ?_
          refine AW.cond rfl (by simp only [go_sem, reduceIte, reduceCtorEq, zA, zM, zE, zL, zD, zS, zP, zB, zI, zR]) ?_ ?_
          · intro hb
            try simp only [hB, decide_eq_true_eq, decide_eq_false_iff_not] at hb
            have hin : i < n := by omega
            have hTi := hTr i hin
            have htT : (meetT n ls).take (i + 1) = (meetT n ls).take i ++ [rowT (meetT n ls) i] := by rw [List.take_add_one]; unfold rowT; rw [List.getElem?_eq_getElem (by omega)]; simp [List.getD_eq_getElem?_getD, List.getElem?_eq_getElem (show i < (meetT n ls).length by omega)]
            rw [hTi] at htT
            generalize hTT : (meetT n ls).take i = T at *
            have hTlen : T.length = i := by rw [← hTT]; simp; omega
            refine AW.skip ?_
            refine hK20 _ _ _ ?_; clear hK20
            refine AW.seq fun K21 hK21 => ?_
            refine AW.block ?_
            refine AW.seq fun K22 hK22 => ?_
            refine AW.regionK 0 (fun _ => none) [0, 4, 6, 11, 12, 55, 56] [4, 11, 12, 201] ?_
            simp only [go_sem, reduceIte, reduceCtorEq, zA, zM, zE, zL, zD, zS, zP, zB, zI, zR, lisR_len]
            repeat with_reducible refine cj ?_ ?_
            all_goals try first | omega
            refine hK22 _ _ _ ?_; clear hK22
            refine AW.seq fun K23 hK23 => ?_
            refine AW.regionK 0 (fun _ => none) [0, 4, 6, 11, 12, 13, 55, 56] [4, 11, 12, 201] ?_
            simp only [go_sem, reduceIte, reduceCtorEq, zA, zM, zE, zL, zD, zS, zP, zB, zI, zR, lisR_len]
            repeat with_reducible refine cj ?_ ?_
            all_goals try first | omega
            refine hK23 _ _ _ ?_; clear hK23
            refine AW.nilOwn 13 202 1 rfl ?_
            refine AW.keep [0, 4, 6, 11, 12, 13, 55, 56] [4, 11, 12, 201, 202] ?_
            simp only [go_sem, reduceIte, zE]
            refine AW.seq fun K24 hK24 => ?_
            refine AW.seq fun K25 hK25 => ?_
            refine AW.regionK 0 (fun _ => none) [0, 4, 6, 11, 12, 13, 55, 56, 59, 60] [4, 11, 12, 201, 202] ?_
            simp only [go_sem, reduceIte, reduceCtorEq, zA, zM, zE, zL, zD, zS, zP, zB, zI, zR, lisR_len]
            repeat with_reducible refine cj ?_ ?_
            all_goals try first | omega
            refine hK25 _ _ _ ?_; clear hK25
            refine AW.block ?_
            refine AW.loopE (fun mm ee ss kk => ∃ (j g4 v4 g11 v11 g12 v12 g v g2 v2 : Nat), n - j = mm ∧ ee = [(0, .int .i64 n), (4, .ptr ⟨4, g4, none⟩ 0 0), (6, .rsl 1 (lisR A)), (11, .ptr ⟨11, g11, none⟩ 0 0), (12, .ptr ⟨12, g12, none⟩ 0 0), (13, .sl ⟨202, g2, none⟩ 0 ((List.range j).filter (meetF n ls i)).length none), (55, .int .i64 n), (56, .int .i64 (i : Nat)), (59, .int .i64 n), (60, .int .i64 (j : Nat))] ∧ ss = [(4, some ⟨g4, v4, 1, [[.nilsl]]⟩), (11, some ⟨g11, v11, 1, [[.sl ⟨201, g, none⟩ 0 i none]]⟩), (12, some ⟨g12, v12, 1, [[.int .i64 (i : Nat)]]⟩), (201, some ⟨g, v, 2, tabR T⟩), (202, some ⟨g2, v2, 1, ints (((List.range j).filter (meetF n ls i)).map fun k : Nat => (k : Int))⟩)] ∧ (j ≤ n)) ?_ ?_
            · refine ⟨_, 0, ?_, ?_, ?_, ?_, ?_, ?_, ?_, ?_, ?_, ?_, rfl, ?henv, ?hstore, ?hst⟩
              case henv =>
                repeat' (first | rfl | refine env_cons ?_ ?_ | refine st_cons ?_ ?_ ?_ ?_ | refine int_eq ?_ | refine bool_eq ?_ | refine rsl_eq ?_ | refine osl_eq ?_ | refine sl_eq ?_ ?_ ?_ | refine ptr_eq ?_ ?_ ?_ | refine agg_eq ?_ | refine es_cons ?_ ?_ | refine row_cons ?_ ?_)
                all_goals (first | (simp; done) | omega | (simp; omega))
              case hstore =>
                repeat' (first | rfl | refine env_cons ?_ ?_ | refine st_cons ?_ ?_ ?_ ?_ | refine int_eq ?_ | refine bool_eq ?_ | refine rsl_eq ?_ | refine osl_eq ?_ | refine sl_eq ?_ ?_ ?_ | refine ptr_eq ?_ ?_ ?_ | refine agg_eq ?_ | refine es_cons ?_ ?_ | refine row_cons ?_ ?_)
                all_goals (first | (simp; done) | omega | (simp; omega))
              case hst =>
                first | trivial | omega | (simp; done) | (simp; omega)
            rintro mm ee ss kk ⟨j, g4, v4, g11, v11, g12, v12, g, v, g2, v2, rfl, rfl, rfl, hI⟩
            generalize hQl3 : thenQ _ _ = Ql3
            have hfl : ((List.range j).filter (meetF n ls i)).length ≤ 512 := Nat.le_trans (List.length_filter_le _ _) (by simp; omega)
            refine AW.seq fun K26 hK26 => ?_
            refine AW.regionK 0 (fun _ => none) [0, 4, 6, 11, 12, 13, 55, 56, 59, 60, 61] [4, 11, 12, 201, 202] ?_
            simp only [go_sem, reduceIte, reduceCtorEq, zA, zM, zE, zL, zD, zS, zP, zB, zI, zR, lisR_len]
            repeat with_reducible refine cj ?_ ?_
            all_goals try first | omega
            refine hK26 _ _ _ ?_; clear hK26
            refine AW.seq fun K27 hK27 => ?_
            refine AW.cond rfl (by simp only [go_sem, reduceIte, reduceCtorEq, zA, zM, zE, zL, zD, zS, zP, zB, zI, zR]) ?_ ?_
            · intro hb
              try simp only [hB, decide_eq_true_eq, decide_eq_false_iff_not] at hb
              have hjn : j < n := by omega
              have hc := hct i j hin hjn
              have hm1 := hmF i j
              have hij : decide ((i : Int) = (j : Int)) = decide (i = j) := decide_eq_decide.2 (by omega)
              have hrs : (List.range (j + 1)).filter (meetF n ls i) = (List.range j).filter (meetF n ls i) ++ if meetF n ls i j then [j] else [] := by rw [List.range_succ, List.filter_append]; cases e : meetF n ls i j <;> simp [e]
              have hft : (ints (((List.range j).filter (meetF n ls i)).map fun k : Nat => (k : Int))).take ((List.range j).filter (meetF n ls i)).length = ints (((List.range j).filter (meetF n ls i)).map fun k : Nat => (k : Int)) := List.take_of_length_le (by rw [ints_len, List.length_map]; omega)
              refine AW.skip ?_
              refine hK27 _ _ _ ?_; clear hK27
              refine AW.seq fun K28 hK28 => ?_
              refine AW.block ?_
              refine AW.seq fun K29 hK29 => ?_
              refine AW.regionK 0 (fun _ => none) [0, 4, 6, 11, 12, 13, 14, 55, 56, 59, 60] [4, 11, 12, 14, 201, 202] ?_
              simp only [go_sem, reduceIte, reduceCtorEq, zA, zM, zE, zL, zD, zS, zP, zB, zI, zR, lisR_len]
              repeat with_reducible refine cj ?_ ?_
              all_goals try first | omega
              refine hK29 _ _ _ ?_; clear hK29
              refine AW.seq fun K30 hK30 => ?_
              refine AW.regionK 0 (fun ii => if ii = 6 then some (.reads true (.bool (A.any (gtA i j)))) else none) [0, 4, 6, 11, 12, 13, 14, 55, 56, 59, 60, 71] [4, 11, 12, 14, 201, 202] ?_
              simp only [go_sem, reduceIte, reduceCtorEq, zA, zM, zE, zL, zD, zS, zP, zB, zI, zR, lisR_len, hij]
              repeat with_reducible refine cj ?_ ?_
              all_goals try first | ((intros; (repeat' apply And.intro) <;> first | assumption | exact hc)) | (intros; (repeat' apply And.intro) <;> first | assumption | ((intros; (repeat' apply And.intro) <;> first | assumption | exact hc))) | omega | exact ent (by kernel_rfl) | (intro hgd; exact absurd hgd (by decide)) | rfl | (simp only [go_sem, reduceIte, reduceCtorEq, zA, zM, zE, zL, zD, zS, zP, zB, zI, zR, lisR_len, hij]; done) | (intro _hgd; simp_all [go_sem]; done)
              refine hK30 _ _ _ ?_; clear hK30
              have hJ8 : ∀ (g2 v2 : Nat) (kk : Nat), K28 [(0, .int .i64 n), (4, .ptr ⟨4, g4, none⟩ 0 0), (6, .rsl 1 (lisR A)), (11, .ptr ⟨11, g11, none⟩ 0 0), (12, .ptr ⟨12, g12, none⟩ 0 0), (13, .sl ⟨202, g2, none⟩ 0 ((List.range (j + 1)).filter (meetF n ls i)).length none), (55, .int .i64 n), (56, .int .i64 (i : Nat)), (59, .int .i64 n), (60, .int .i64 (j : Nat))] [(4, some ⟨g4, v4, 1, [[.nilsl]]⟩), (11, some ⟨g11, v11, 1, [[.sl ⟨201, g, none⟩ 0 i none]]⟩), (12, some ⟨g12, v12, 1, [[.int .i64 (i : Nat)]]⟩), (201, some ⟨g, v, 2, tabR T⟩), (202, some ⟨g2, v2, 1, ints (((List.range (j + 1)).filter (meetF n ls i)).map fun k : Nat => (k : Int))⟩)] kk := by
                intro g2 v2 kk
                refine hK28 _ _ _ ?_; clear hK28
                refine AW.regionK 0 (fun _ => none) [0, 4, 6, 11, 12, 13, 55, 56, 59, 60] [4, 11, 12, 201, 202] ?_
                simp only [go_sem, reduceIte, reduceCtorEq, zA, zM, zE, zL, zD, zS, zP, zB, zI, zR, lisR_len]
                repeat with_reducible refine cj ?_ ?_
                all_goals try first | omega
                rw [← hQl3]
                change Exists _
                refine ⟨_, ?hm, j + 1, ?_, ?_, ?_, ?_, ?_, ?_, ?_, ?_, ?_, ?_, rfl, ?henv, ?hstore, ?hst⟩
                case henv =>
                  repeat' (first | rfl | refine env_cons ?_ ?_ | refine st_cons ?_ ?_ ?_ ?_ | refine int_eq ?_ | refine bool_eq ?_ | refine rsl_eq ?_ | refine osl_eq ?_ | refine sl_eq ?_ ?_ ?_ | refine ptr_eq ?_ ?_ ?_ | refine agg_eq ?_ | refine es_cons ?_ ?_ | refine row_cons ?_ ?_)
                  all_goals (first | omega | (rw [List.range_succ]))
                case hstore =>
                  repeat' (first | rfl | refine env_cons ?_ ?_ | refine st_cons ?_ ?_ ?_ ?_ | refine int_eq ?_ | refine bool_eq ?_ | refine rsl_eq ?_ | refine osl_eq ?_ | refine sl_eq ?_ ?_ ?_ | refine ptr_eq ?_ ?_ ?_ | refine agg_eq ?_ | refine es_cons ?_ ?_ | refine row_cons ?_ ?_)
                  all_goals (rw [List.range_succ])
                case hst =>
                  omega
                case hm => omega
              refine AW.cond rfl (by simp only [go_sem, reduceIte, reduceCtorEq, zA, zM, zE, zL, zD, zS, zP, zB, zI, zR]) ?_ ?_
              · intro hb
                try simp only [hB, decide_eq_true_eq, decide_eq_false_iff_not] at hb
                have hmt1 : meetF n ls i j = true := by rw [hm1]; revert hb; simp
                rw [hmt1, if_pos rfl] at hrs
                simp only [hrs, List.length_append, List.length_cons, List.length_nil, Nat.zero_add, List.map_append, List.map_cons, List.map_nil] at hJ8
                refine AW.regionK 0 (fun _ => none) [0, 4, 6, 11, 12, 13, 55, 56, 59, 60] [4, 11, 12, 201, 202] ?_
                simp only [go_sem, reduceIte, reduceCtorEq, zA, zM, zE, zL, zD, zS, zP, zB, zI, zR, lisR_len, hft, ints_app]
                repeat with_reducible refine cj ?_ ?_
                all_goals try first | omega | (simp [scP, scalar]; done) | exact scP_words _ | exact scP_ints _ | exact scP_bools _
                exact hJ8 _ _ _
              · intro hb
                try simp only [hB, decide_eq_true_eq, decide_eq_false_iff_not] at hb
                have hmt1 : meetF n ls i j = false := by rw [hm1]; revert hb; simp; exact fun h h2 => h.resolve_left h2
                rw [hmt1, if_neg (by simp), List.append_nil] at hrs
                simp only [hrs] at hJ8
                refine AW.keep [0, 4, 6, 11, 12, 13, 55, 56, 59, 60] [4, 11, 12, 201, 202] ?_
                try simp only [go_sem, reduceIte, reduceCtorEq, zA, zM, zE, zL, zD, zS, zP, zB, zI, zR]
                refine AW.skip ?_
                exact hJ8 _ _ _
            · intro hb
              try simp only [hB, decide_eq_true_eq, decide_eq_false_iff_not] at hb
              have hjn : j = n := by omega
              rw [hjn] at hfl ⊢
              have hft : (ints (((List.range n).filter (meetF n ls i)).map fun k : Nat => (k : Int))).take ((List.range n).filter (meetF n ls i)).length = ints (((List.range n).filter (meetF n ls i)).map fun k : Nat => (k : Int)) := List.take_of_length_le (by rw [ints_len, List.length_map]; omega)
              have hft2 : (((List.range n).filter (meetF n ls i)).map fun k : Nat => (k : Int)).take ((List.range n).filter (meetF n ls i)).length = ((List.range n).filter (meetF n ls i)).map fun k : Nat => (k : Int) := List.take_of_length_le (by rw [List.length_map]; omega)
              have hin2 : ∀ y ∈ ((List.range n).filter (meetF n ls i)).map (fun k : Nat => (k : Int)), 0 ≤ y ∧ y < (n : Int) := fun y hy => by
                obtain ⟨k, hk, rfl⟩ := List.mem_map.1 hy
                have := List.mem_range.1 (List.mem_filter.1 hk).1
                omega
              have hofi := hof _ (by rw [List.length_map]; omega) hin2
              rw [ofW_row hin2, rowL_nats, show (setR n fun k => decide (k ∈ (List.range n).filter (meetF n ls i))) = setR n (meetF n ls i) from setR_ext fun k hk => by rw [Bool.eq_iff_iff, decide_eq_true_eq, List.mem_filter, List.mem_range]; exact ⟨fun h => h.2, fun h => ⟨hk, h⟩⟩] at hofi
              have hrl := setR_len n (meetF n ls i)
              generalize hRR : setR n (meetF n ls i) = R at *
              have htr : (tabR T).take i = tabR T := List.take_of_length_le (by rw [tabR_len]; omega)
              have har : tabR T ++ [[.int .i64 n, .rsl 1 (words (setW R n))]] = tabR (T ++ [R]) := by simp [tabR, rowB, hrl]
              have htl2 := tabR_len T
              refine AW.keep [0, 4, 6, 11, 13, 55, 56] [4, 11, 12, 201, 202] ?_
              try simp only [go_sem, reduceIte, reduceCtorEq, zA, zM, zE, zL, zD, zS, zP, zB, zI, zR]
              refine AW.exit ?_
              rw [← hQl3]
              refine hK24 _ _ _ ?_; clear hK24
              refine AW.seq fun K31 hK31 => ?_
              refine AW.regionK 0 (fun ii => if ii = 2 then some (.reads true (.tup [.agg [.int .i64 n, .rsl 1 (words (setW R n))], .int .i64 0])) else none) [0, 4, 6, 11, 15, 16, 55, 56] [4, 11, 15, 201] ?_
              simp only [go_sem, reduceIte, reduceCtorEq, zA, zM, zE, zL, zD, zS, zP, zB, zI, zR, lisR_len, hft, hft2]
              repeat with_reducible refine cj ?_ ?_
              all_goals try first | (exact hofi) | omega | exact ent (by kernel_rfl)
              refine hK31 _ _ _ ?_; clear hK31
              refine AW.seq fun K32 hK32 => ?_
              refine AW.seq fun K33 hK33 => ?_
              refine AW.regionK 0 (fun _ => none) [0, 4, 6, 11, 15, 16, 55, 56, 84] [4, 11, 15, 201] ?_
              simp only [go_sem, reduceIte, reduceCtorEq, zA, zM, zE, zL, zD, zS, zP, zB, zI, zR, lisR_len]
              repeat with_reducible refine cj ?_ ?_
              all_goals try first | omega
              refine hK33 _ _ _ ?_; clear hK33
              refine AW.cond rfl (by simp only [go_sem, reduceIte, reduceCtorEq, zA, zM, zE, zL, zD, zS, zP, zB, zI, zR]) ?_ ?_
              · intro hb
                try simp only [hB, decide_eq_true_eq, decide_eq_false_iff_not] at hb
                exfalso; simp at hb
              · intro hb
                try simp only [hB, decide_eq_true_eq, decide_eq_false_iff_not] at hb
                refine AW.skip ?_
                refine hK32 _ _ _ ?_; clear hK32
                refine AW.regionK 0 (fun _ => none) [0, 4, 6, 11, 55, 56] [4, 11, 201] ?_
                simp only [go_sem, reduceIte, reduceCtorEq, zA, zM, zE, zL, zD, zS, zP, zB, zI, zR, lisR_len, htr, har]
                repeat with_reducible refine cj ?_ ?_
                all_goals try first | omega | (simp [scP, scalar]; done) | exact scP_words _ | exact scP_ints _ | exact scP_bools _
                refine hK21 _ _ _ ?_; clear hK21
                refine AW.regionK 0 (fun _ => none) [0, 4, 6, 11, 55, 56] [4, 11, 201] ?_
                simp only [go_sem, reduceIte, reduceCtorEq, zA, zM, zE, zL, zD, zS, zP, zB, zI, zR, lisR_len]
                repeat with_reducible refine cj ?_ ?_
                all_goals try first | omega
                rw [← hQl2]
                change Exists _
                refine ⟨_, ?hm, i + 1, ?_, ?_, ?_, ?_, ?_, ?_, rfl, ?henv, ?hstore, ?hst⟩
                case henv =>
                  repeat' (first | rfl | refine env_cons ?_ ?_ | refine st_cons ?_ ?_ ?_ ?_ | refine int_eq ?_ | refine bool_eq ?_ | refine rsl_eq ?_ | refine osl_eq ?_ | refine sl_eq ?_ ?_ ?_ | refine ptr_eq ?_ ?_ ?_ | refine agg_eq ?_ | refine es_cons ?_ ?_ | refine row_cons ?_ ?_)
                  all_goals (first | (simp; done) | omega | (simp; omega))
                case hstore =>
                  repeat' (first | rfl | refine env_cons ?_ ?_ | refine st_cons ?_ ?_ ?_ ?_ | refine int_eq ?_ | refine bool_eq ?_ | refine rsl_eq ?_ | refine osl_eq ?_ | refine sl_eq ?_ ?_ ?_ | refine ptr_eq ?_ ?_ ?_ | refine agg_eq ?_ | refine es_cons ?_ ?_ | refine row_cons ?_ ?_)
                  all_goals (rw [htT])
                case hst =>
                  omega
                case hm => omega
          · intro hb
            try simp only [hB, decide_eq_true_eq, decide_eq_false_iff_not] at hb
            have hin : i = n := by omega
            rw [hin, List.take_of_length_le (by omega)]
            have htT : (tabR (meetT n ls)).take n = tabR (meetT n ls) := List.take_of_length_le (by rw [tabR_len]; omega)
            refine AW.keep [4, 11] [4, 11, 201] ?_
            try simp only [go_sem, reduceIte, reduceCtorEq, zA, zM, zE, zL, zD, zS, zP, zB, zI, zR]
            refine AW.exit ?_
            rw [← hQl2]
            refine hK17 _ _ _ ?_; clear hK17
            refine AW.seq fun K34 hK34 => ?_
            refine AW.regionK 0 (fun _ => none) [4, 5] [4, 201] ?_
            simp only [go_sem, reduceIte, reduceCtorEq, zA, zM, zE, zL, zD, zS, zP, zB, zI, zR, lisR_len]
            repeat with_reducible refine cj ?_ ?_
            all_goals try first | omega
            refine hK34 _ _ _ ?_; clear hK34
            refine AW.ret ?_
            rw [← hQr]
            simp only [go_sem, reduceIte, reduceCtorEq, zA, zM, zE, zL, zD, zS, zP, zB, zI, zR, lisR_len]
            exact Wk.of_eq (by rw [htT, vwc_tabR])
end Go.Proofs.X

namespace Go.Proofs.X
open Go.AM Go
set_option maxRecDepth 100000
set_option maxHeartbeats 4000000
theorem same_refl (n : Nat) (t : List (List Bool)) (hs : Sq n t) (hn : n ≤ 512) : Reads Tryd.prog 35 false [relB t, relB t] (.bool true) := by
  have hlt : (tabR t).length = n := by rw [tabR_len, hs.len]
  have hgr := fun i hi => tabR_get (t := t) (i := i) hi
  have hlen := hs.len
  unfold relB rowB at *
  refine Reads.body (rs := [.tmp 4]) Tryd.func35 rfl Tryd.ntmps35 rfl (by simp) ?_
  generalize hQr : retQ _ _ _ = Qr
  refine AW.seq fun K1 hK1 => ?_
  refine AW.regionK 0 (fun _ => none) [2, 3] [2, 3] ?_
  simp only [go_sem, reduceIte, reduceCtorEq, zA, zM, zE, zL, zD, zS, zP, zB, zI, zR, hlt, words_len]
  repeat with_reducible refine cj ?_ ?_
  all_goals try first | omega
  refine hK1 _ _ _ ?_; clear hK1
  refine AW.seq fun K2 hK2 => ?_
  refine AW.seq fun K3 hK3 => ?_
  refine AW.regionK 0 (fun _ => none) [2, 3, 15] [2, 3] ?_
  simp only [go_sem, reduceIte, reduceCtorEq, zA, zM, zE, zL, zD, zS, zP, zB, zI, zR, hlt, words_len]
  repeat with_reducible refine cj ?_ ?_
  all_goals try first | omega
  refine hK3 _ _ _ ?_; clear hK3
  refine AW.cond rfl (by simp only [go_sem, reduceIte, reduceCtorEq, zA, zM, zE, zL, zD, zS, zP, zB, zI, zR]) ?_ ?_
  · intro hb
    try simp only [hB, decide_eq_true_eq, decide_eq_false_iff_not] at hb
    exfalso; revert hb; simp
  · intro hb
    try simp only [hB, decide_eq_true_eq, decide_eq_false_iff_not] at hb
    refine AW.skip ?_
    refine hK2 _ _ _ ?_; clear hK2
    refine AW.seq fun K4 hK4 => ?_
    refine AW.seq fun K5 hK5 => ?_
    refine AW.regionK 0 (fun _ => none) [2, 3, 5] [2, 3] ?_
    simp only [go_sem, reduceIte, reduceCtorEq, zA, zM, zE, zL, zD, zS, zP, zB, zI, zR, hlt, words_len]
    repeat with_reducible refine cj ?_ ?_
    all_goals try first | omega
    refine hK5 _ _ _ ?_; clear hK5
    refine AW.block ?_
    refine AW.loopE (fun mm ee ss kk => ∃ (i g2 v2 g3 v3 : Nat), n - i = mm ∧ ee = [(2, .ptr ⟨2, g2, none⟩ 0 0), (3, .ptr ⟨3, g3, none⟩ 0 0), (5, .int .i64 (i : Nat))] ∧ ss = [(2, some ⟨g2, v2, 1, [[.rsl 2 (tabR t)]]⟩), (3, some ⟨g3, v3, 1, [[.rsl 2 (tabR t)]]⟩)] ∧ (i ≤ n)) ?_ ?_
    · refine ⟨_, 0, ?_, ?_, ?_, ?_, rfl, ?henv, ?hstore, ?hst⟩
      case henv =>
        repeat' (first | rfl | refine env_cons ?_ ?_ | refine st_cons ?_ ?_ ?_ ?_ | refine int_eq ?_ | refine bool_eq ?_ | refine rsl_eq ?_ | refine osl_eq ?_ | refine sl_eq ?_ ?_ ?_ | refine ptr_eq ?_ ?_ ?_ | refine agg_eq ?_ | refine es_cons ?_ ?_ | refine row_cons ?_ ?_)
        all_goals (first | (simp; done) | omega | (simp; omega))
      case hstore =>
        repeat' (first | rfl | refine env_cons ?_ ?_ | refine st_cons ?_ ?_ ?_ ?_ | refine int_eq ?_ | refine bool_eq ?_ | refine rsl_eq ?_ | refine osl_eq ?_ | refine sl_eq ?_ ?_ ?_ | refine ptr_eq ?_ ?_ ?_ | refine agg_eq ?_ | refine es_cons ?_ ?_ | refine row_cons ?_ ?_)
        all_goals (first | (simp; done) | omega | (simp; omega))
      case hst =>
        first | trivial | omega | (simp; done) | (simp; omega)
    rintro mm ee ss kk ⟨i, g2, v2, g3, v3, rfl, rfl, rfl, hI⟩
    generalize hQl1 : thenQ _ _ = Ql1
    refine AW.seq fun K6 hK6 => ?_
    refine AW.seq fun K7 hK7 => ?_
    refine AW.regionK 0 (fun _ => none) [2, 3, 5, 20] [2, 3] ?_
    simp only [go_sem, reduceIte, reduceCtorEq, zA, zM, zE, zL, zD, zS, zP, zB, zI, zR, hlt, words_len]
    repeat with_reducible refine cj ?_ ?_
    all_goals try first | omega
    refine hK7 _ _ _ ?_; clear hK7
    refine AW.cond rfl (by simp only [go_sem, reduceIte, reduceCtorEq, zA, zM, zE, zL, zD, zS, zP, zB, zI, zR]) ?_ ?_
    · intro hb
      try simp only [hB, decide_eq_true_eq, decide_eq_false_iff_not] at hb
      have hin : i < n := by omega
      have hgi := hgr i (by omega)
      have hri := hs.rowLen hin
      have hwl := setW_len' (rowT t i)
      have hwn := wordsN_rng (n := (n : Int)) (by omega)
      rw [hri] at hwl hgi
      have hgw := fun q (hq : q < (setW (rowT t i) n).length) => words_getD (l := setW (rowT t i) n) (i := q) hq
      generalize hW : setW (rowT t i) n = W at *
      refine AW.skip ?_
      refine hK6 _ _ _ ?_; clear hK6
      refine AW.seq fun K8 hK8 => ?_
      refine AW.block ?_
      refine AW.seq fun K9 hK9 => ?_
      refine AW.regionD mixed 0 (fun _ => none) [2, 3, 5, 6, 7] [2, 3, 6, 7] ?_
      simp only [go_sem, reduceIte, reduceCtorEq, zA, zM, zE, zL, zD, zS, zP, zB, zI, zR, hlt, words_len, hgi]
      repeat with_reducible refine cj ?_ ?_
      all_goals try first | omega | exact chk (by kernel_rfl)
      refine hK9 _ _ _ ?_; clear hK9
      refine AW.seq fun K10 hK10 => ?_
      refine AW.seq fun K11 hK11 => ?_
      refine AW.regionK 0 (fun _ => none) [2, 3, 5, 6, 7, 46] [2, 3, 6, 7] ?_
      simp only [go_sem, reduceIte, reduceCtorEq, zA, zM, zE, zL, zD, zS, zP, zB, zI, zR, hlt, words_len]
      repeat with_reducible refine cj ?_ ?_
      all_goals try first | omega | (intros; (repeat' apply And.intro) <;> first | assumption | omega | decide) | (intro hgd; exact absurd hgd (by decide)) | rfl | (simp only [go_sem, reduceIte, reduceCtorEq, zA, zM, zE, zL, zD, zS, zP, zB, zI, zR, hlt, words_len]; done) | (intro _hgd; simp_all [go_sem]; done)
      refine hK11 _ _ _ ?_; clear hK11
      refine AW.cond rfl (by simp only [go_sem, reduceIte, reduceCtorEq, zA, zM, zE, zL, zD, zS, zP, zB, zI, zR]) ?_ ?_
      · intro hb
        try simp only [hB, decide_eq_true_eq, decide_eq_false_iff_not] at hb
        exfalso; revert hb; simp
      · intro hb
        try simp only [hB, decide_eq_true_eq, decide_eq_false_iff_not] at hb
        refine AW.skip ?_
        refine hK10 _ _ _ ?_; clear hK10
        refine AW.seq fun K12 hK12 => ?_
        refine AW.regionK 0 (fun _ => none) [2, 3, 5, 6, 7, 8] [2, 3, 6, 7] ?_
        simp only [go_sem, reduceIte, reduceCtorEq, zA, zM, zE, zL, zD, zS, zP, zB, zI, zR, hlt, words_len]
        repeat with_reducible refine cj ?_ ?_
        all_goals try first | omega
        refine hK12 _ _ _ ?_; clear hK12
        refine AW.block ?_
        refine AW.loopE (fun mm ee ss kk => ∃ (q g2 v2 g3 v3 g6 v6 g7 v7 : Nat), W.length - q = mm ∧ ee = [(2, .ptr ⟨2, g2, none⟩ 0 0), (3, .ptr ⟨3, g3, none⟩ 0 0), (5, .int .i64 (i : Nat)), (6, .ptr ⟨6, g6, none⟩ 0 0), (7, .ptr ⟨7, g7, none⟩ 0 0), (8, .int .i64 (q : Nat))] ∧ ss = [(2, some ⟨g2, v2, 1, [[.rsl 2 (tabR t)]]⟩), (3, some ⟨g3, v3, 1, [[.rsl 2 (tabR t)]]⟩), (6, some ⟨g6, v6, 2, [[.int .i64 n, .rsl 1 (words W)]]⟩), (7, some ⟨g7, v7, 2, [[.int .i64 n, .rsl 1 (words W)]]⟩)] ∧ (q ≤ W.length)) ?_ ?_
        · refine ⟨_, 0, ?_, ?_, ?_, ?_, ?_, ?_, ?_, ?_, rfl, ?henv, ?hstore, ?hst⟩
          case henv =>
            repeat' (first | rfl | refine env_cons ?_ ?_ | refine st_cons ?_ ?_ ?_ ?_ | refine int_eq ?_ | refine bool_eq ?_ | refine rsl_eq ?_ | refine osl_eq ?_ | refine sl_eq ?_ ?_ ?_ | refine ptr_eq ?_ ?_ ?_ | refine agg_eq ?_ | refine es_cons ?_ ?_ | refine row_cons ?_ ?_)
            all_goals (first | (simp; done) | omega | (simp; omega))
          case hstore =>
            repeat' (first | rfl | refine env_cons ?_ ?_ | refine st_cons ?_ ?_ ?_ ?_ | refine int_eq ?_ | refine bool_eq ?_ | refine rsl_eq ?_ | refine osl_eq ?_ | refine sl_eq ?_ ?_ ?_ | refine ptr_eq ?_ ?_ ?_ | refine agg_eq ?_ | refine es_cons ?_ ?_ | refine row_cons ?_ ?_)
            all_goals (first | (simp; done) | omega | (simp; omega))
          case hst =>
            first | trivial | omega | (simp; done) | (simp; omega)
        rintro mm ee ss kk ⟨q, g2, v2, g3, v3, g6, v6, g7, v7, rfl, rfl, rfl, hI⟩
        generalize hQl2 : thenQ _ _ = Ql2
        refine AW.seq fun K13 hK13 => ?_
        refine AW.seq fun K14 hK14 => ?_
        refine AW.regionK 0 (fun _ => none) [2, 3, 5, 6, 7, 8, 51] [2, 3, 6, 7] ?_
        simp only [go_sem, reduceIte, reduceCtorEq, zA, zM, zE, zL, zD, zS, zP, zB, zI, zR, hlt, words_len]
        repeat with_reducible refine cj ?_ ?_
        all_goals try first | omega
        refine hK14 _ _ _ ?_; clear hK14
        refine AW.cond rfl (by simp only [go_sem, reduceIte, reduceCtorEq, zA, zM, zE, zL, zD, zS, zP, zB, zI, zR]) ?_ ?_
        · intro hb
          try simp only [hB, decide_eq_true_eq, decide_eq_false_iff_not] at hb
          have hgq := hgw q (by omega)
          refine AW.skip ?_
          refine hK13 _ _ _ ?_; clear hK13
          refine AW.seq fun K15 hK15 => ?_
          refine AW.block ?_
          refine AW.seq fun K16 hK16 => ?_
          refine AW.regionD mixed 0 (fun _ => none) [2, 3, 5, 6, 7, 8, 64] [2, 3, 6, 7] ?_
          simp only [go_sem, reduceIte, reduceCtorEq, zA, zM, zE, zL, zD, zS, zP, zB, zI, zR, hlt, words_len, hgq]
          repeat with_reducible refine cj ?_ ?_
          all_goals try first | omega | exact chk (by kernel_rfl)
          refine hK16 _ _ _ ?_; clear hK16
          refine AW.cond rfl (by simp only [go_sem, reduceIte, reduceCtorEq, zA, zM, zE, zL, zD, zS, zP, zB, zI, zR]) ?_ ?_
          · intro hb
            try simp only [hB, decide_eq_true_eq, decide_eq_false_iff_not] at hb
            exfalso; revert hb; simp
          · intro hb
            try simp only [hB, decide_eq_true_eq, decide_eq_false_iff_not] at hb
            refine AW.skip ?_
            refine hK15 _ _ _ ?_; clear hK15
            refine AW.regionK 0 (fun _ => none) [2, 3, 5, 6, 7, 8] [2, 3, 6, 7] ?_
            simp only [go_sem, reduceIte, reduceCtorEq, zA, zM, zE, zL, zD, zS, zP, zB, zI, zR, hlt, words_len]
            repeat with_reducible refine cj ?_ ?_
            all_goals try first | omega
            rw [← hQl2]
            change Exists _
            refine ⟨_, ?hm, q + 1, ?_, ?_, ?_, ?_, ?_, ?_, ?_, ?_, rfl, ?henv, ?hstore, ?hst⟩
            case henv =>
              repeat' (first | rfl | refine env_cons ?_ ?_ | refine st_cons ?_ ?_ ?_ ?_ | refine int_eq ?_ | refine bool_eq ?_ | refine rsl_eq ?_ | refine osl_eq ?_ | refine sl_eq ?_ ?_ ?_ | refine ptr_eq ?_ ?_ ?_ | refine agg_eq ?_ | refine es_cons ?_ ?_ | refine row_cons ?_ ?_)
              all_goals (first | (simp; done) | omega | (simp; omega))
            case hstore =>
              repeat' (first | rfl | refine env_cons ?_ ?_ | refine st_cons ?_ ?_ ?_ ?_ | refine int_eq ?_ | refine bool_eq ?_ | refine rsl_eq ?_ | refine osl_eq ?_ | refine sl_eq ?_ ?_ ?_ | refine ptr_eq ?_ ?_ ?_ | refine agg_eq ?_ | refine es_cons ?_ ?_ | refine row_cons ?_ ?_)
              all_goals (first | (simp; done) | omega | (simp; omega))
            case hst =>
              omega
            case hm => omega
        · intro hb
          try simp only [hB, decide_eq_true_eq, decide_eq_false_iff_not] at hb
          refine AW.keep [2, 3, 5] [2, 3] ?_
          try simp only [go_sem, reduceIte, reduceCtorEq, zA, zM, zE, zL, zD, zS, zP, zB, zI, zR]
          refine AW.exit ?_
          rw [← hQl2]
          refine hK8 _ _ _ ?_; clear hK8
          refine AW.regionK 0 (fun _ => none) [2, 3, 5] [2, 3] ?_
          simp only [go_sem, reduceIte, reduceCtorEq, zA, zM, zE, zL, zD, zS, zP, zB, zI, zR, hlt, words_len]
          repeat with_reducible refine cj ?_ ?_
          all_goals try first | omega
          rw [← hQl1]
          change Exists _
          refine ⟨_, ?hm, i + 1, ?_, ?_, ?_, ?_, rfl, ?henv, ?hstore, ?hst⟩
          case henv =>
            repeat' (first | rfl | refine env_cons ?_ ?_ | refine st_cons ?_ ?_ ?_ ?_ | refine int_eq ?_ | refine bool_eq ?_ | refine rsl_eq ?_ | refine osl_eq ?_ | refine sl_eq ?_ ?_ ?_ | refine ptr_eq ?_ ?_ ?_ | refine agg_eq ?_ | refine es_cons ?_ ?_ | refine row_cons ?_ ?_)
            all_goals (first | (simp; done) | omega | (simp; omega))
          case hstore =>
            repeat' (first | rfl | refine env_cons ?_ ?_ | refine st_cons ?_ ?_ ?_ ?_ | refine int_eq ?_ | refine bool_eq ?_ | refine rsl_eq ?_ | refine osl_eq ?_ | refine sl_eq ?_ ?_ ?_ | refine ptr_eq ?_ ?_ ?_ | refine agg_eq ?_ | refine es_cons ?_ ?_ | refine row_cons ?_ ?_)
            all_goals (first | (simp; done) | omega | (simp; omega))
          case hst =>
            omega
          case hm => omega
    · intro hb
      try simp only [hB, decide_eq_true_eq, decide_eq_false_iff_not] at hb
      refine AW.keep [] [] ?_
      try simp only [go_sem, reduceIte, reduceCtorEq, zA, zM, zE, zL, zD, zS, zP, zB, zI, zR]
      refine AW.exit ?_
      rw [← hQl1]
      refine hK4 _ _ _ ?_; clear hK4
      refine AW.seq fun K17 hK17 => ?_
      refine AW.regionK 0 (fun _ => none) [4] [] ?_
      simp only [go_sem, reduceIte, reduceCtorEq, zA, zM, zE, zL, zD, zS, zP, zB, zI, zR, hlt, words_len]
      repeat with_reducible refine cj ?_ ?_
      all_goals try first | omega
      refine hK17 _ _ _ ?_; clear hK17
      refine AW.ret ?_
      rw [← hQr]
      simp only [go_sem, reduceIte, reduceCtorEq, zA, zM, zE, zL, zD, zS, zP, zB, zI, zR, hlt, words_len]
      exact Wk.refl _
theorem rmeet_f (n : Nat) (hn : n ≤ 512) (ls : List (List Int)) (hl : ls.length ≤ 100000) (hle : ∀ x ∈ ls, x.length = n) : Reads Tryd.prog 36 true [.int .i64 n, .rsl 1 (lisR ls)] (relB (tabF n (meetR n ls))) := by
  have hsq := tabF_sq n (meetR n ls)
  have hMl := hsq.len
  have hTr : ∀ i, i < n → rowT (tabF n (meetR n ls)) i = setR n (meetR n ls i) := fun i hi => rowT_tabF hi
  have hmR : ∀ i j, meetR n ls i j = (!decide (i = j) && ls.all (bfA n i j)) := fun _ _ => rfl
  generalize hM : tabF n (meetR n ls) = M at *
  have hwn := wordsN_rng (n := (n : Int)) (by omega)
  have hwe := wordsN_ref (n : Int)
  unfold relB
  refine Reads.bodyF (rs := [.cell 4 24]) Tryd.func36 rfl Tryd.ntmps36 rfl (by simp) ?_
  generalize hQr : retQ _ _ _ = Qr
  refine AW.seq fun K1 hK1 => ?_
  refine AW.regionK 0 (fun _ => none) [0, 1, 4] [4] ?_
  simp only [go_sem, reduceIte, reduceCtorEq, zA, zM, zE, zL, zD, zS, zP, zB, zI, zR, lisR_len, hwe]
  repeat with_reducible refine cj ?_ ?_
  all_goals try first | omega
  refine hK1 _ _ _ ?_; clear hK1
  refine AW.seq fun K2 hK2 => ?_
  refine AW.regionK 0 (fun _ => none) [0, 1, 4, 5] [4, 5] ?_
  simp only [go_sem, reduceIte, reduceCtorEq, zA, zM, zE, zL, zD, zS, zP, zB, zI, zR, lisR_len, hwe]
  repeat with_reducible refine cj ?_ ?_
  all_goals try first | omega
  refine hK2 _ _ _ ?_; clear hK2
  refine AW.seq fun K3 hK3 => ?_
  refine AW.seq fun K4 hK4 => ?_
  refine AW.regionK 0 (fun _ => none) [0, 1, 4, 5, 6] [4, 5] ?_
  simp only [go_sem, reduceIte, reduceCtorEq, zA, zM, zE, zL, zD, zS, zP, zB, zI, zR, lisR_len, hwe]
  repeat with_reducible refine cj ?_ ?_
  all_goals try first | omega
  refine hK4 _ _ _ ?_; clear hK4
  refine AW.block ?_
  refine AW.nilCellK 5 0 0 200 2 ?_
  simp only [go_sem, reduceIte, zE]
  repeat refine cj ?_ ?_
  all_goals first | decide | skip
  refine AW.keep [0, 1, 4, 5, 6] [4, 5, 200] ?_
  simp only [go_sem, reduceIte, zE]
  refine AW.loopE (fun mm ee ss kk => ∃ (i g4 v4 g5 v5 g v : Nat), n - i = mm ∧ ee = [(0, .int .i64 n), (1, .rsl 1 (lisR ls)), (4, .ptr ⟨4, g4, none⟩ 0 0), (5, .ptr ⟨5, g5, none⟩ 0 0), (6, .int .i64 (i : Nat))] ∧ ss = [(4, some ⟨g4, v4, 1, [[.nilsl]]⟩), (5, some ⟨g5, v5, 1, [[.sl ⟨200, g, none⟩ 0 i none]]⟩), (200, some ⟨g, v, 2, tabO (M.take i)⟩)] ∧ (i ≤ n)) ?_ ?_
  · refine ⟨_, 0, ?_, ?_, ?_, ?_, ?_, ?_, rfl, ?henv, ?hstore, ?hst⟩
    case henv =>
      repeat' (first | rfl | refine env_cons ?_ ?_ | refine st_cons ?_ ?_ ?_ ?_ | refine int_eq ?_ | refine bool_eq ?_ | refine rsl_eq ?_ | refine osl_eq ?_ | refine sl_eq ?_ ?_ ?_ | refine ptr_eq ?_ ?_ ?_ | refine agg_eq ?_ | refine es_cons ?_ ?_ | refine row_cons ?_ ?_)
      all_goals (first | (simp; done) | omega | (simp; omega))
    case hstore =>
      repeat' (first | rfl | refine env_cons ?_ ?_ | refine st_cons ?_ ?_ ?_ ?_ | refine int_eq ?_ | refine bool_eq ?_ | refine rsl_eq ?_ | refine osl_eq ?_ | refine sl_eq ?_ ?_ ?_ | refine ptr_eq ?_ ?_ ?_ | refine agg_eq ?_ | refine es_cons ?_ ?_ | refine row_cons ?_ ?_)
      all_goals (first | (simp; done) | omega | (simp; omega))
    case hst =>
      first | trivial | omega | (simp; done) | (simp; omega)
  rintro mm ee ss kk ⟨i, g4, v4, g5, v5, g, v, rfl, rfl, rfl, hI⟩
  generalize hQl1 : thenQ _ _ = Ql1
  refine AW.seq fun K5 hK5 => ?_
  refine AW.seq fun K6 hK6 => ?_
  refine AW.regionK 0 (fun _ => none) [0, 1, 4, 5, 6, 16] [4, 5, 200] ?_
  simp only [go_sem, reduceIte, reduceCtorEq, zA, zM, zE, zL, zD, zS, zP, zB, zI, zR, lisR_len, hwe]
  repeat with_reducible refine cj ?_ ?_
  all_goals try first | omega
  refine hK6 _ _ _ ?_; clear hK6
  refine AW.cond rfl (by simp only [go_sem, reduceIte, reduceCtorEq, zA, zM, zE, zL, zD, zS, zP, zB, zI, zR]) ?_ ?_
  · intro hb
    try simp only [hB, decide_eq_true_eq, decide_eq_false_iff_not] at hb
    have hin : i < n := by omega
    have hTi := hTr i hin
    have htT : M.take (i + 1) = M.take i ++ [rowT M i] := by rw [List.take_add_one]; unfold rowT; rw [List.getElem?_eq_getElem (by omega)]; simp [List.getD_eq_getElem?_getD, List.getElem?_eq_getElem (show i < M.length by omega)]
    rw [hTi] at htT
    have htl : (M.take i).length = i := by simp; omega
    have htk : (tabO (M.take i)).take i = tabO (M.take i) := List.take_of_length_le (by rw [tabO_len]; omega)
    have hrx := setR_len n (meetR n ls i)
    have hrg := fun j (hj : j < n) => setR_get (f := meetR n ls i) hj
    generalize hR : setR n (meetR n ls i) = R at *
    have hap : tabO (M.take i) ++ [[.int .i64 n, .osl 1 (words (setW R n))]] = tabO (M.take i ++ [R]) := by simp [tabO, rowO, hrx]
    have hgl : ∀ c : List AV, (tabO (M.take i) ++ [c]).getD i [] = c := fun c => by rw [List.getD_eq_getElem?_getD, List.getElem?_append_right (by rw [tabO_len]; omega), tabO_len, htl]; simp
    have hsl : ∀ c c' : List AV, (tabO (M.take i) ++ [c]).set i c' = tabO (M.take i) ++ [c'] := fun c c' => by rw [List.set_append_right _ _ (by rw [tabO_len]; omega), tabO_len, htl]; simp
    have hll : ∀ c : List AV, (tabO (M.take i) ++ [c]).length = i + 1 := fun c => by simp [tabO_len]; omega
    have hwl := fun j => setW_len R j
    rw [hrx] at hwl
    have hz0 : setW R 0 = List.replicate (wordsN n).toNat 0 := by rw [← hrx]; simp [setW]
    refine AW.skip ?_
    refine hK5 _ _ _ ?_; clear hK5
    refine AW.seq fun K7 hK7 => ?_
    refine AW.block ?_
    refine AW.seq fun K8 hK8 => ?_
    refine AW.regionK 0 (fun _ => none) [0, 1, 4, 5, 6, 7] [4, 5, 7, 23, 200] ?_
    simp only [go_sem, reduceIte, reduceCtorEq, zA, zM, zE, zL, zD, zS, zP, zB, zI, zR, lisR_len, hwe]
    repeat with_reducible refine cj ?_ ?_
    all_goals try first | omega
    refine hK8 _ _ _ ?_; clear hK8
    refine AW.seq fun K9 hK9 => ?_
    refine AW.seq fun K10 hK10 => ?_
    refine AW.regionK 0 (fun _ => none) [0, 1, 4, 5, 6, 7, 8] [4, 5, 7, 23, 200] ?_
    simp only [go_sem, reduceIte, reduceCtorEq, zA, zM, zE, zL, zD, zS, zP, zB, zI, zR, lisR_len, hwe]
    repeat with_reducible refine cj ?_ ?_
    all_goals try first | omega
    refine hK10 _ _ _ ?_; clear hK10
    refine AW.block ?_
    refine AW.loopE (fun mm ee ss kk => ∃ (j g4 v4 g5 v5 g7 v7 g23 v23 g v : Nat), n - j = mm ∧ ee = [(0, .int .i64 n), (1, .rsl 1 (lisR ls)), (4, .ptr ⟨4, g4, none⟩ 0 0), (5, .ptr ⟨5, g5, none⟩ 0 0), (6, .int .i64 (i : Nat)), (7, .ptr ⟨7, g7, none⟩ 0 0), (8, .int .i64 (j : Nat))] ∧ ss = [(4, some ⟨g4, v4, 1, [[.nilsl]]⟩), (5, some ⟨g5, v5, 1, [[.sl ⟨200, g, none⟩ 0 i none]]⟩), (7, some ⟨g7, v7, 2, [[.int .i64 n, .sl ⟨23, g23, none⟩ 0 (wordsN n).toNat none]]⟩), (23, some ⟨g23, v23, 1, words (setW R j)⟩), (200, some ⟨g, v, 2, tabO (M.take i)⟩)] ∧ (j ≤ n)) ?_ ?_
    · refine ⟨_, 0, ?_, ?_, ?_, ?_, ?_, ?_, ?_, ?_, ?_, ?_, rfl, ?henv, ?hstore, ?hst⟩
      case henv =>
        repeat' (first | rfl | refine env_cons ?_ ?_ | refine st_cons ?_ ?_ ?_ ?_ | refine int_eq ?_ | refine bool_eq ?_ | refine rsl_eq ?_ | refine osl_eq ?_ | refine sl_eq ?_ ?_ ?_ | refine ptr_eq ?_ ?_ ?_ | refine agg_eq ?_ | refine es_cons ?_ ?_ | refine row_cons ?_ ?_)
        all_goals (first | (simp; done) | omega | (simp; omega))
      case hstore =>
        repeat' (first | rfl | refine env_cons ?_ ?_ | refine st_cons ?_ ?_ ?_ ?_ | refine int_eq ?_ | refine bool_eq ?_ | refine rsl_eq ?_ | refine osl_eq ?_ | refine sl_eq ?_ ?_ ?_ | refine ptr_eq ?_ ?_ ?_ | refine agg_eq ?_ | refine es_cons ?_ ?_ | refine row_cons ?_ ?_)
        all_goals (rw [hz0]; simp [words])
      case hst =>
        first | trivial | omega | (simp; done) | (simp; omega)
    rintro mm ee ss kk ⟨j, g4, v4, g5, v5, g7, v7, g23, v23, g, v, rfl, rfl, rfl, hI⟩
    generalize hQl2 : thenQ _ _ = Ql2
    refine AW.seq fun K11 hK11 => ?_
    refine AW.seq fun K12 hK12 => ?_
    refine AW.regionK 0 (fun _ => none) [0, 1, 4, 5, 6, 7, 8, 27] [4, 5, 7, 23, 200] ?_
    simp only [go_sem, reduceIte, reduceCtorEq, zA, zM, zE, zL, zD, zS, zP, zB, zI, zR, lisR_len, hwe]
    repeat with_reducible refine cj ?_ ?_
    all_goals try first | omega
    refine hK12 _ _ _ ?_; clear hK12
    refine AW.cond rfl (by simp only [go_sem, reduceIte, reduceCtorEq, zA, zM, zE, zL, zD, zS, zP, zB, zI, zR]) ?_ ?_
    · intro hb
      try simp only [hB, decide_eq_true_eq, decide_eq_false_iff_not] at hb
      have hjn : j < n := by omega
      have hij : decide ((i : Int) = (j : Int)) = decide (i = j) := decide_eq_decide.2 (by omega)
      have hRj := hrg j hjn
      have hmij := hmR i j
      have hsu := setW_succ R j
      rw [hRj] at hsu
      have hd := div64_rng (i := (j : Int)) (n := n) (by omega) (by omega)
      have hlj := hwl j
      have hgw := words_getD (l := setW R j) (i := ((j : Int).tdiv 64).toNat) (by omega)
      unfold setBit at hsu
      refine AW.skip ?_
      refine hK11 _ _ _ ?_; clear hK11
      refine AW.seq fun K13 hK13 => ?_
      refine AW.block ?_
      refine AW.seq fun K14 hK14 => ?_
      refine AW.regionK 0 (fun _ => none) [0, 1, 4, 5, 6, 7, 8, 9] [4, 5, 7, 23, 200] ?_
      simp only [go_sem, reduceIte, reduceCtorEq, zA, zM, zE, zL, zD, zS, zP, zB, zI, zR, lisR_len, hwe, hij]
      repeat with_reducible refine cj ?_ ?_
      all_goals try first | omega
      refine hK14 _ _ _ ?_; clear hK14
      refine AW.seq fun K15 hK15 => ?_
      refine AW.seq fun K16 hK16 => ?_
      refine AW.regionK 0 (fun _ => none) [0, 1, 4, 5, 6, 7, 8, 9, 10] [4, 5, 7, 23, 200] ?_
      simp only [go_sem, reduceIte, reduceCtorEq, zA, zM, zE, zL, zD, zS, zP, zB, zI, zR, lisR_len, hwe]
      repeat with_reducible refine cj ?_ ?_
      all_goals try first | omega
      refine hK16 _ _ _ ?_; clear hK16
      refine AW.block ?_
      refine AW.loopE (fun mm ee ss kk => ∃ (k g4 v4 g5 v5 g7 v7 g23 v23 g v : Nat), ls.length - k = mm ∧ ee = [(0, .int .i64 n), (1, .rsl 1 (lisR ls)), (4, .ptr ⟨4, g4, none⟩ 0 0), (5, .ptr ⟨5, g5, none⟩ 0 0), (6, .int .i64 (i : Nat)), (7, .ptr ⟨7, g7, none⟩ 0 0), (8, .int .i64 (j : Nat)), (9, .bool (!decide (i = j) && (ls.take k).all (bfA n i j))), (10, .int .i64 (k : Nat))] ∧ ss = [(4, some ⟨g4, v4, 1, [[.nilsl]]⟩), (5, some ⟨g5, v5, 1, [[.sl ⟨200, g, none⟩ 0 i none]]⟩), (7, some ⟨g7, v7, 2, [[.int .i64 n, .sl ⟨23, g23, none⟩ 0 (wordsN n).toNat none]]⟩), (23, some ⟨g23, v23, 1, words (setW R j)⟩), (200, some ⟨g, v, 2, tabO (M.take i)⟩)] ∧ (k ≤ ls.length)) ?_ ?_
      · refine ⟨_, 0, ?_, ?_, ?_, ?_, ?_, ?_, ?_, ?_, ?_, ?_, rfl, ?henv, ?hstore, ?hst⟩
        case henv =>
          repeat' (first | rfl | refine env_cons ?_ ?_ | refine st_cons ?_ ?_ ?_ ?_ | refine int_eq ?_ | refine bool_eq ?_ | refine rsl_eq ?_ | refine osl_eq ?_ | refine sl_eq ?_ ?_ ?_ | refine ptr_eq ?_ ?_ ?_ | refine agg_eq ?_ | refine es_cons ?_ ?_ | refine row_cons ?_ ?_)
          all_goals (first | omega | rfl | (simp; done))
        case hstore =>
          repeat' (first | rfl | refine env_cons ?_ ?_ | refine st_cons ?_ ?_ ?_ ?_ | refine int_eq ?_ | refine bool_eq ?_ | refine rsl_eq ?_ | refine osl_eq ?_ | refine sl_eq ?_ ?_ ?_ | refine ptr_eq ?_ ?_ ?_ | refine agg_eq ?_ | refine es_cons ?_ ?_ | refine row_cons ?_ ?_)
          all_goals (first | (simp; done) | omega | (simp; omega))
        case hst =>
          first | trivial | omega | (simp; done) | (simp; omega)
      rintro mm ee ss kk ⟨k, g4, v4, g5, v5, g7, v7, g23, v23, g, v, rfl, rfl, rfl, hI⟩
      generalize hQl3 : thenQ _ _ = Ql3
      refine AW.seq fun K17 hK17 => ?_
      refine AW.seq fun K18 hK18 => ?_
      refine AW.regionK 0 (fun _ => none) [0, 1, 4, 5, 6, 7, 8, 9, 10, 39] [4, 5, 7, 23, 200] ?_
      simp only [go_sem, reduceIte, reduceCtorEq, zA, zM, zE, zL, zD, zS, zP, zB, zI, zR, lisR_len, hwe]
      repeat with_reducible refine cj ?_ ?_
      all_goals try first | omega | (intros; (repeat' apply And.intro) <;> first | assumption | omega | decide) | (intro hgd; exact absurd hgd (by decide)) | rfl | (simp only [go_sem, reduceIte, reduceCtorEq, zA, zM, zE, zL, zD, zS, zP, zB, zI, zR, lisR_len, hwe]; done) | (intro _hgd; simp_all [go_sem]; done)
      refine hK18 _ _ _ ?_; clear hK18
      refine AW.cond rfl (by simp only [go_sem, reduceIte, reduceCtorEq, zA, zM, zE, zL, zD, zS, zP, zB, zI, zR]) ?_ ?_
      · intro hb
        try simp only [hB, decide_eq_true_eq, decide_eq_false_iff_not] at hb
        have hkl : k < ls.length := by omega
        have hbf : (!decide (i = j) && (ls.take k).all (bfA n i j)) = true := by
          revert hb; simp
        obtain ⟨x, hx⟩ := getI (l := ls) (j := k) hkl
        have hgx : (lisR ls).getD k [] = [.rsl 1 (ints x)] := by simp [lisR, List.getD_eq_getElem?_getD, hx]
        have hats := all_take_succ (p := bfA n i j) hx
        have hxl := hle x (List.mem_of_getElem? hx)
        have hbx : bfA n i j x = decide (refA x i n < refA x j n) := rfl
        have hgm := fun m (hm : m < n) => ints_getD (l := x) (i := m) (by omega)
        have hr0 : ∀ z, refA x z 0 = 0 := fun _ => rfl
        refine AW.skip ?_
        refine hK17 _ _ _ ?_; clear hK17
        refine AW.seq fun K19 hK19 => ?_
        refine AW.block ?_
        refine AW.seq fun K20 hK20 => ?_
        refine AW.regionK 0 (fun _ => none) [0, 1, 4, 5, 6, 7, 8, 10, 11, 12] [4, 5, 7, 23, 200] ?_
        simp only [go_sem, reduceIte, reduceCtorEq, zA, zM, zE, zL, zD, zS, zP, zB, zI, zR, lisR_len, hwe]
        repeat with_reducible refine cj ?_ ?_
        all_goals try first | omega
        refine hK20 _ _ _ ?_; clear hK20
        refine AW.seq fun K21 hK21 => ?_
        refine AW.seq fun K22 hK22 => ?_
        refine AW.regionK 0 (fun _ => none) [0, 1, 4, 5, 6, 7, 8, 10, 11, 12, 13] [4, 5, 7, 23, 200] ?_
        simp only [go_sem, reduceIte, reduceCtorEq, zA, zM, zE, zL, zD, zS, zP, zB, zI, zR, lisR_len, hwe]
        repeat with_reducible refine cj ?_ ?_
        all_goals try first | omega
        refine hK22 _ _ _ ?_; clear hK22
        refine AW.block ?_
        refine AW.loopE (fun mm ee ss kk => ∃ (m g4 v4 g5 v5 g7 v7 g23 v23 g v : Nat), n - m = mm ∧ ee = [(0, .int .i64 n), (1, .rsl 1 (lisR ls)), (4, .ptr ⟨4, g4, none⟩ 0 0), (5, .ptr ⟨5, g5, none⟩ 0 0), (6, .int .i64 (i : Nat)), (7, .ptr ⟨7, g7, none⟩ 0 0), (8, .int .i64 (j : Nat)), (10, .int .i64 (k : Nat)), (11, .int .i64 (refA x i m)), (12, .int .i64 (refA x j m)), (13, .int .i64 (m : Nat))] ∧ ss = [(4, some ⟨g4, v4, 1, [[.nilsl]]⟩), (5, some ⟨g5, v5, 1, [[.sl ⟨200, g, none⟩ 0 i none]]⟩), (7, some ⟨g7, v7, 2, [[.int .i64 n, .sl ⟨23, g23, none⟩ 0 (wordsN n).toNat none]]⟩), (23, some ⟨g23, v23, 1, words (setW R j)⟩), (200, some ⟨g, v, 2, tabO (M.take i)⟩)] ∧ (m ≤ n)) ?_ ?_
        · refine ⟨_, 0, ?_, ?_, ?_, ?_, ?_, ?_, ?_, ?_, ?_, ?_, rfl, ?henv, ?hstore, ?hst⟩
          case henv =>
            repeat' (first | rfl | refine env_cons ?_ ?_ | refine st_cons ?_ ?_ ?_ ?_ | refine int_eq ?_ | refine bool_eq ?_ | refine rsl_eq ?_ | refine osl_eq ?_ | refine sl_eq ?_ ?_ ?_ | refine ptr_eq ?_ ?_ ?_ | refine agg_eq ?_ | refine es_cons ?_ ?_ | refine row_cons ?_ ?_)
            all_goals (first | (simp; done) | omega | (simp; omega))
          case hstore =>
            repeat' (first | rfl | refine env_cons ?_ ?_ | refine st_cons ?_ ?_ ?_ ?_ | refine int_eq ?_ | refine bool_eq ?_ | refine rsl_eq ?_ | refine osl_eq ?_ | refine sl_eq ?_ ?_ ?_ | refine ptr_eq ?_ ?_ ?_ | refine agg_eq ?_ | refine es_cons ?_ ?_ | refine row_cons ?_ ?_)
            all_goals (first | (simp; done) | omega | (simp; omega))
          case hst =>
            first | trivial | omega | (simp; done) | (simp; omega)
        rintro mm ee ss kk ⟨m, g4, v4, g5, v5, g7, v7, g23, v23, g, v, rfl, rfl, rfl, hI⟩
        generalize hQl4 : thenQ _ _ = Ql4
        refine AW.seq fun K23 hK23 => ?_
        refine AW.seq fun K24 hK24 => ?_
        refine AW.regionK 0 (fun _ => none) [0, 1, 4, 5, 6, 7, 8, 10, 11, 12, 13, 44] [4, 5, 7, 23, 200] ?_
        simp only [go_sem, reduceIte, reduceCtorEq, zA, zM, zE, zL, zD, zS, zP, zB, zI, zR, lisR_len, hwe]
        repeat with_reducible refine cj ?_ ?_
        all_goals try first | omega
        refine hK24 _ _ _ ?_; clear hK24
        refine AW.cond rfl (by simp only [go_sem, reduceIte, reduceCtorEq, zA, zM, zE, zL, zD, zS, zP, zB, zI, zR]) ?_ ?_
        · intro hb
          try simp only [hB, decide_eq_true_eq, decide_eq_false_iff_not] at hb
          have hmn : m < n := by omega
          have hgmm := hgm m hmn
          have hri : refA x i (m + 1) = if x.getD m 0 = i then ((m : Nat) : Int) else refA x i m := rfl
          have hrj : refA x j (m + 1) = if x.getD m 0 = j then ((m : Nat) : Int) else refA x j m := rfl
          refine AW.skip ?_
          refine hK23 _ _ _ ?_; clear hK23
          refine AW.seq fun K25 hK25 => ?_
          refine AW.block ?_
          refine AW.seq fun K26 hK26 => ?_
          refine AW.seq fun K27 hK27 => ?_
          refine AW.regionK 0 (fun _ => none) [0, 1, 4, 5, 6, 7, 8, 10, 11, 12, 13, 55] [4, 5, 7, 23, 200] ?_
          simp only [go_sem, reduceIte, reduceCtorEq, zA, zM, zE, zL, zD, zS, zP, zB, zI, zR, lisR_len, hwe, hgx, hgmm]
          repeat with_reducible refine cj ?_ ?_
          all_goals try first | omega
          refine hK27 _ _ _ ?_; clear hK27
          have hJ5 : ∀ (z : Nat) (kk : Nat), K26 [(0, .int .i64 n), (1, .rsl 1 (lisR ls)), (4, .ptr ⟨4, g4, none⟩ 0 0), (5, .ptr ⟨5, g5, none⟩ 0 0), (6, .int .i64 (i : Nat)), (7, .ptr ⟨7, g7, none⟩ 0 0), (8, .int .i64 (j : Nat)), (10, .int .i64 (k : Nat)), (11, .int .i64 (refA x i (m + 1))), (12, .int .i64 (refA x j m)), (13, .int .i64 (m : Nat))] [(4, some ⟨g4, v4, 1, [[.nilsl]]⟩), (5, some ⟨g5, v5, 1, [[.sl ⟨200, g, none⟩ 0 i none]]⟩), (7, some ⟨g7, v7, 2, [[.int .i64 n, .sl ⟨23, g23, none⟩ 0 (wordsN n).toNat none]]⟩), (23, some ⟨g23, v23, 1, words (setW R j)⟩), (200, some ⟨g, v, 2, tabO (M.take i)⟩)] kk := by
            intro z kk
            refine hK26 _ _ _ ?_; clear hK26
            refine AW.seq fun K29 hK29 => ?_
            refine AW.regionK 0 (fun _ => none) [0, 1, 4, 5, 6, 7, 8, 10, 11, 12, 13, 65] [4, 5, 7, 23, 200] ?_
            simp only [go_sem, reduceIte, reduceCtorEq, zA, zM, zE, zL, zD, zS, zP, zB, zI, zR, lisR_len, hwe, hgx, hgmm]
            repeat with_reducible refine cj ?_ ?_
            all_goals try first | omega
            refine hK29 _ _ _ ?_; clear hK29
            have hJ6 : ∀ (z : Nat) (kk : Nat), K25 [(0, .int .i64 n), (1, .rsl 1 (lisR ls)), (4, .ptr ⟨4, g4, none⟩ 0 0), (5, .ptr ⟨5, g5, none⟩ 0 0), (6, .int .i64 (i : Nat)), (7, .ptr ⟨7, g7, none⟩ 0 0), (8, .int .i64 (j : Nat)), (10, .int .i64 (k : Nat)), (11, .int .i64 (refA x i (m + 1))), (12, .int .i64 (refA x j (m + 1))), (13, .int .i64 (m : Nat))] [(4, some ⟨g4, v4, 1, [[.nilsl]]⟩), (5, some ⟨g5, v5, 1, [[.sl ⟨200, g, none⟩ 0 i none]]⟩), (7, some ⟨g7, v7, 2, [[.int .i64 n, .sl ⟨23, g23, none⟩ 0 (wordsN n).toNat none]]⟩), (23, some ⟨g23, v23, 1, words (setW R j)⟩), (200, some ⟨g, v, 2, tabO (M.take i)⟩)] kk := by
              intro z kk
              refine hK25 _ _ _ ?_; clear hK25
              refine AW.regionK 0 (fun _ => none) [0, 1, 4, 5, 6, 7, 8, 10, 11, 12, 13] [4, 5, 7, 23, 200] ?_
              simp only [go_sem, reduceIte, reduceCtorEq, zA, zM, zE, zL, zD, zS, zP, zB, zI, zR, lisR_len, hwe]
              repeat with_reducible refine cj ?_ ?_
              all_goals try first | omega
              rw [← hQl4]
              change Exists _
              refine ⟨_, ?hm, m + 1, ?_, ?_, ?_, ?_, ?_, ?_, ?_, ?_, ?_, ?_, rfl, ?henv, ?hstore, ?hst⟩
              case henv =>
                repeat' (first | rfl | refine env_cons ?_ ?_ | refine st_cons ?_ ?_ ?_ ?_ | refine int_eq ?_ | refine bool_eq ?_ | refine rsl_eq ?_ | refine osl_eq ?_ | refine sl_eq ?_ ?_ ?_ | refine ptr_eq ?_ ?_ ?_ | refine agg_eq ?_ | refine es_cons ?_ ?_ | refine row_cons ?_ ?_)
                all_goals (first | (simp; done) | omega | (simp; omega))
              case hstore =>
                repeat' (first | rfl | refine env_cons ?_ ?_ | refine st_cons ?_ ?_ ?_ ?_ | refine int_eq ?_ | refine bool_eq ?_ | refine rsl_eq ?_ | refine osl_eq ?_ | refine sl_eq ?_ ?_ ?_ | refine ptr_eq ?_ ?_ ?_ | refine agg_eq ?_ | refine es_cons ?_ ?_ | refine row_cons ?_ ?_)
                all_goals (first | (simp; done) | omega | (simp; omega))
              case hst =>
                omega
              case hm => omega
            refine AW.cond rfl (by simp only [go_sem, reduceIte, reduceCtorEq, zA, zM, zE, zL, zD, zS, zP, zB, zI, zR]) ?_ ?_
            · intro hb
              try simp only [hB, decide_eq_true_eq, decide_eq_false_iff_not] at hb
              rw [if_pos hb] at hrj
              rw [hrj] at hJ6
              refine AW.regionK 0 (fun _ => none) [0, 1, 4, 5, 6, 7, 8, 10, 11, 12, 13] [4, 5, 7, 23, 200] ?_
              simp only [go_sem, reduceIte, reduceCtorEq, zA, zM, zE, zL, zD, zS, zP, zB, zI, zR, lisR_len, hwe]
              repeat with_reducible refine cj ?_ ?_
              all_goals try first | omega
              exact hJ6 0 _
            · intro hb
              try simp only [hB, decide_eq_true_eq, decide_eq_false_iff_not] at hb
              rw [if_neg hb] at hrj
              rw [hrj] at hJ6
              refine AW.keep [0, 1, 4, 5, 6, 7, 8, 10, 11, 12, 13] [4, 5, 7, 23, 200] ?_
              try simp only [go_sem, reduceIte, reduceCtorEq, zA, zM, zE, zL, zD, zS, zP, zB, zI, zR]
              refine AW.skip ?_
              exact hJ6 0 _
          refine AW.cond rfl (by simp only [go_sem, reduceIte, reduceCtorEq, zA, zM, zE, zL, zD, zS, zP, zB, zI, zR]) ?_ ?_
          · intro hb
            try simp only [hB, decide_eq_true_eq, decide_eq_false_iff_not] at hb
            rw [if_pos hb] at hri
            rw [hri] at hJ5
            refine AW.regionK 0 (fun _ => none) [0, 1, 4, 5, 6, 7, 8, 10, 11, 12, 13] [4, 5, 7, 23, 200] ?_
            simp only [go_sem, reduceIte, reduceCtorEq, zA, zM, zE, zL, zD, zS, zP, zB, zI, zR, lisR_len, hwe]
            repeat with_reducible refine cj ?_ ?_
            all_goals try first | omega
            exact hJ5 0 _
          · intro hb
            try simp only [hB, decide_eq_true_eq, decide_eq_false_iff_not] at hb
            rw [if_neg hb] at hri
            rw [hri] at hJ5
            refine AW.keep [0, 1, 4, 5, 6, 7, 8, 10, 11, 12, 13] [4, 5, 7, 23, 200] ?_
            try simp only [go_sem, reduceIte, reduceCtorEq, zA, zM, zE, zL, zD, zS, zP, zB, zI, zR]
            refine AW.skip ?_
            exact hJ5 0 _
        · intro hb
          try simp only [hB, decide_eq_true_eq, decide_eq_false_iff_not] at hb
          have hmn : m = n := by omega
          rw [hmn]
          refine AW.keep [0, 1, 4, 5, 6, 7, 8, 10, 11, 12] [4, 5, 7, 23, 200] ?_
          try simp only [go_sem, reduceIte, reduceCtorEq, zA, zM, zE, zL, zD, zS, zP, zB, zI, zR]
          refine AW.exit ?_
          rw [← hQl4]
          refine hK21 _ _ _ ?_; clear hK21
          refine AW.regionK 0 (fun _ => none) [0, 1, 4, 5, 6, 7, 8, 9, 10] [4, 5, 7, 23, 200] ?_
          simp only [go_sem, reduceIte, reduceCtorEq, zA, zM, zE, zL, zD, zS, zP, zB, zI, zR, lisR_len, hwe]
          repeat with_reducible refine cj ?_ ?_
          all_goals try first | omega
          refine hK19 _ _ _ ?_; clear hK19
          refine AW.regionK 0 (fun _ => none) [0, 1, 4, 5, 6, 7, 8, 9, 10] [4, 5, 7, 23, 200] ?_
          simp only [go_sem, reduceIte, reduceCtorEq, zA, zM, zE, zL, zD, zS, zP, zB, zI, zR, lisR_len, hwe]
          repeat with_reducible refine cj ?_ ?_
          all_goals try first | omega
          rw [← hQl3]
          change Exists _
          refine ⟨_, ?hm, k + 1, ?_, ?_, ?_, ?_, ?_, ?_, ?_, ?_, ?_, ?_, rfl, ?henv, ?hstore, ?hst⟩
          case henv =>
            repeat' (first | rfl | refine env_cons ?_ ?_ | refine st_cons ?_ ?_ ?_ ?_ | refine int_eq ?_ | refine bool_eq ?_ | refine rsl_eq ?_ | refine osl_eq ?_ | refine sl_eq ?_ ?_ ?_ | refine ptr_eq ?_ ?_ ?_ | refine agg_eq ?_ | refine es_cons ?_ ?_ | refine row_cons ?_ ?_)
            all_goals (first | omega | (rw [hats, ← hbx, ← Bool.and_assoc, hbf, Bool.true_and]))
          case hstore =>
            repeat' (first | rfl | refine env_cons ?_ ?_ | refine st_cons ?_ ?_ ?_ ?_ | refine int_eq ?_ | refine bool_eq ?_ | refine rsl_eq ?_ | refine osl_eq ?_ | refine sl_eq ?_ ?_ ?_ | refine ptr_eq ?_ ?_ ?_ | refine agg_eq ?_ | refine es_cons ?_ ?_ | refine row_cons ?_ ?_)
            all_goals (first | (simp; done) | omega | (simp; omega))
          case hst =>
            omega
          case hm => omega
      · intro hb
        try simp only [hB, decide_eq_true_eq, decide_eq_false_iff_not] at hb
        have hfin : (!decide (i = j) && (ls.take k).all (bfA n i j)) = meetR n ls i j := by
          rw [hmij]
          by_cases hkl : k = ls.length
          · rw [hkl, List.take_of_length_le (Nat.le_refl _)]
          · have hf : (!decide (i = j) && (ls.take k).all (bfA n i j)) = false := by
              cases e : (!decide (i = j) && (ls.take k).all (bfA n i j)) with
              | false => rfl
              | true =>
                exfalso
                rw [Bool.and_eq_true, Bool.not_eq_true', decide_eq_false_iff_not] at e
                rcases hb with h | h | h
                · omega
                · exact e.1 h
                · rw [h] at e; cases e.2
            rw [hf]
            rw [Bool.and_eq_false_iff] at hf
            rcases hf with h | h
            · rw [h]; rfl
            · have : ls.all (bfA n i j) = false := by
                rw [List.all_eq_false] at h ⊢
                obtain ⟨y, h1, h2⟩ := h
                exact ⟨y, List.mem_of_mem_take h1, h2⟩
              rw [this, Bool.and_false]
        rw [hfin]
        refine AW.keep [0, 1, 4, 5, 6, 7, 8, 9] [4, 5, 7, 23, 200] ?_
        try simp only [go_sem, reduceIte, reduceCtorEq, zA, zM, zE, zL, zD, zS, zP, zB, zI, zR]
        refine AW.exit ?_
        rw [← hQl3]
        refine hK15 _ _ _ ?_; clear hK15
        refine AW.seq fun K30 hK30 => ?_
        refine AW.regionK 0 (fun _ => none) [0, 1, 4, 5, 6, 7, 8, 70] [4, 5, 7, 23, 200] ?_
        simp only [go_sem, reduceIte, reduceCtorEq, zA, zM, zE, zL, zD, zS, zP, zB, zI, zR, lisR_len, hwe]
        repeat with_reducible refine cj ?_ ?_
        all_goals try first | omega
        refine hK30 _ _ _ ?_; clear hK30
        refine AW.cond rfl (by simp only [go_sem, reduceIte, reduceCtorEq, zA, zM, zE, zL, zD, zS, zP, zB, zI, zR]) ?_ ?_
        · intro hb
          try simp only [hB, decide_eq_true_eq, decide_eq_false_iff_not] at hb
          rw [if_pos hb] at hsu
          refine AW.regionD mixed 0 (fun _ => none) [0, 1, 4, 5, 6, 7, 8] [4, 5, 7, 23, 200] ?_
          simp only [go_sem, reduceIte, reduceCtorEq, zA, zM, zE, zL, zD, zS, zP, zB, zI, zR, lisR_len, hwe, hgw, hlj]
          repeat with_reducible refine cj ?_ ?_
          all_goals try first | omega | exact chk (by kernel_rfl)
          refine hK13 _ _ _ ?_; clear hK13
          refine AW.regionK 0 (fun _ => none) [0, 1, 4, 5, 6, 7, 8] [4, 5, 7, 23, 200] ?_
          simp only [go_sem, reduceIte, reduceCtorEq, zA, zM, zE, zL, zD, zS, zP, zB, zI, zR, lisR_len, hwe]
          repeat with_reducible refine cj ?_ ?_
          all_goals try first | omega
          rw [← hQl2]
          change Exists _
          refine ⟨_, ?hm, j + 1, ?_, ?_, ?_, ?_, ?_, ?_, ?_, ?_, ?_, ?_, rfl, ?henv, ?hstore, ?hst⟩
          case henv =>
            repeat' (first | rfl | refine env_cons ?_ ?_ | refine st_cons ?_ ?_ ?_ ?_ | refine int_eq ?_ | refine bool_eq ?_ | refine rsl_eq ?_ | refine osl_eq ?_ | refine sl_eq ?_ ?_ ?_ | refine ptr_eq ?_ ?_ ?_ | refine agg_eq ?_ | refine es_cons ?_ ?_ | refine row_cons ?_ ?_)
            all_goals (first | (simp; done) | omega | (simp; omega))
          case hstore =>
            repeat' (first | rfl | refine env_cons ?_ ?_ | refine st_cons ?_ ?_ ?_ ?_ | refine int_eq ?_ | refine bool_eq ?_ | refine rsl_eq ?_ | refine osl_eq ?_ | refine sl_eq ?_ ?_ ?_ | refine ptr_eq ?_ ?_ ?_ | refine agg_eq ?_ | refine es_cons ?_ ?_ | refine row_cons ?_ ?_)
            all_goals (rw [hsu])
          case hst =>
            omega
          case hm => omega
        · intro hb
          try simp only [hB, decide_eq_true_eq, decide_eq_false_iff_not] at hb
          rw [if_neg (by rw [hb]; simp)] at hsu
          refine AW.skip ?_
          refine hK13 _ _ _ ?_; clear hK13
          refine AW.regionK 0 (fun _ => none) [0, 1, 4, 5, 6, 7, 8] [4, 5, 7, 23, 200] ?_
          simp only [go_sem, reduceIte, reduceCtorEq, zA, zM, zE, zL, zD, zS, zP, zB, zI, zR, lisR_len, hwe]
          repeat with_reducible refine cj ?_ ?_
          all_goals try first | omega
          rw [← hQl2]
          change Exists _
          refine ⟨_, ?hm, j + 1, ?_, ?_, ?_, ?_, ?_, ?_, ?_, ?_, ?_, ?_, rfl, ?henv, ?hstore, ?hst⟩
          case henv =>
            repeat' (first | rfl | refine env_cons ?_ ?_ | refine st_cons ?_ ?_ ?_ ?_ | refine int_eq ?_ | refine bool_eq ?_ | refine rsl_eq ?_ | refine osl_eq ?_ | refine sl_eq ?_ ?_ ?_ | refine ptr_eq ?_ ?_ ?_ | refine agg_eq ?_ | refine es_cons ?_ ?_ | refine row_cons ?_ ?_)
            all_goals (first | (simp; done) | omega | (simp; omega))
          case hstore =>
            repeat' (first | rfl | refine env_cons ?_ ?_ | refine st_cons ?_ ?_ ?_ ?_ | refine int_eq ?_ | refine bool_eq ?_ | refine rsl_eq ?_ | refine osl_eq ?_ | refine sl_eq ?_ ?_ ?_ | refine ptr_eq ?_ ?_ ?_ | refine agg_eq ?_ | refine es_cons ?_ ?_ | refine row_cons ?_ ?_)
            all_goals (rw [hsu])
          case hst =>
            omega
          case hm => omega
    · intro hb
      try simp only [hB, decide_eq_true_eq, decide_eq_false_iff_not] at hb
      have hjn : j = n := by omega
      have hlj := hwl n
      rw [hjn]
      have htw : (words (setW R n)).take (wordsN n).toNat = words (setW R n) := List.take_of_length_le (by rw [words_len]; omega)
      refine AW.keep [0, 1, 4, 5, 6, 7] [4, 5, 7, 23, 200] ?_
      try simp only [go_sem, reduceIte, reduceCtorEq, zA, zM, zE, zL, zD, zS, zP, zB, zI, zR]
      refine AW.exit ?_
      rw [← hQl2]
      refine hK9 _ _ _ ?_; clear hK9
      refine AW.regionK 0 (fun _ => none) [0, 1, 4, 5, 6] [4, 5, 23, 200] ?_
      simp only [go_sem, reduceIte, reduceCtorEq, zA, zM, zE, zL, zD, zS, zP, zB, zI, zR, lisR_len, hwe, htk, tabO_len, htl]
      repeat with_reducible refine cj ?_ ?_
      all_goals try first | omega | (simp [scP, scalar]; done) | exact scP_words _ | exact scP_ints _ | exact scP_bools _
      refine hK7 _ _ _ ?_; clear hK7
      refine AW.adoptK 200 i 1 23 ?_
      simp only [go_sem, reduceIte, zE, hgl, hsl, hll]
      refine ⟨hlj, noOsl_words _, ?_⟩
      refine AW.keep [0, 1, 4, 5, 6] [4, 5, 200] ?_
      simp only [go_sem, reduceIte, zE, hap]
      refine AW.regionK 0 (fun _ => none) [0, 1, 4, 5, 6] [4, 5, 200] ?_
      simp only [go_sem, reduceIte, reduceCtorEq, zA, zM, zE, zL, zD, zS, zP, zB, zI, zR, lisR_len, hwe]
      repeat with_reducible refine cj ?_ ?_
      all_goals try first | omega
      rw [← hQl1]
      change Exists _
      refine ⟨_, ?hm, i + 1, ?_, ?_, ?_, ?_, ?_, ?_, rfl, ?henv, ?hstore, ?hst⟩
      case henv =>
        repeat' (first | rfl | refine env_cons ?_ ?_ | refine st_cons ?_ ?_ ?_ ?_ | refine int_eq ?_ | refine bool_eq ?_ | refine rsl_eq ?_ | refine osl_eq ?_ | refine sl_eq ?_ ?_ ?_ | refine ptr_eq ?_ ?_ ?_ | refine agg_eq ?_ | refine es_cons ?_ ?_ | refine row_cons ?_ ?_)
        all_goals (first | (simp; done) | omega | (simp; omega))
      case hstore =>
        repeat' (first | rfl | refine env_cons ?_ ?_ | refine st_cons ?_ ?_ ?_ ?_ | refine int_eq ?_ | refine bool_eq ?_ | refine rsl_eq ?_ | refine osl_eq ?_ | refine sl_eq ?_ ?_ ?_ | refine ptr_eq ?_ ?_ ?_ | refine agg_eq ?_ | refine es_cons ?_ ?_ | refine row_cons ?_ ?_)
        all_goals (rw [htT])
      case hst =>
        omega
      case hm => omega
  · intro hb
    try simp only [hB, decide_eq_true_eq, decide_eq_false_iff_not] at hb
    have hin : i = n := by omega
    rw [hin, List.take_of_length_le (by omega)]
    have htT : (tabO M).take n = tabO M := List.take_of_length_le (by rw [tabO_len]; omega)
    refine AW.keep [4, 5] [4, 5, 200] ?_
    try simp only [go_sem, reduceIte, reduceCtorEq, zA, zM, zE, zL, zD, zS, zP, zB, zI, zR]
    refine AW.exit ?_
    rw [← hQl1]
    refine hK3 _ _ _ ?_; clear hK3
    refine AW.seq fun K31 hK31 => ?_
    refine AW.regionK 0 (fun _ => none) [4] [4, 200] ?_
    simp only [go_sem, reduceIte, reduceCtorEq, zA, zM, zE, zL, zD, zS, zP, zB, zI, zR, lisR_len, hwe]
    repeat with_reducible refine cj ?_ ?_
    all_goals try first | omega
    refine hK31 _ _ _ ?_; clear hK31
    refine AW.ret ?_
    rw [← hQr]
    simp only [go_sem, reduceIte, reduceCtorEq, zA, zM, zE, zL, zD, zS, zP, zB, zI, zR, lisR_len, hwe]
    exact Wk.of_eq (by rw [htT, vwcF_tabO])
end Go.Proofs.X

namespace Go.Proofs.X
open Go.AM Go
set_option maxRecDepth 100000
set_option maxHeartbeats 4000000
theorem meets_z (n : Int) (ls : List (List Int)) (hl : ls.length ≤ 9223372036854775807) (hle : ∀ x ∈ ls, x.length ≤ 9223372036854775807) (e : Int) (hM : Reads Tryd.prog 32 false [.int .i64 n, .rsl 1 (lisR ls)] (.tup [.agg [.rsl 2 []], .int .i64 e]))
    (he : ((n < 0 ∨ 512 < n) ∧ e = 2) ∨ (¬ (n < 0 ∨ 512 < n) ∧ ls.length = 0 ∧ e = 7) ∨ (¬ (n < 0 ∨ 512 < n) ∧ 100 < ls.length ∧ e = 5) ∨ (¬ (n < 0 ∨ 512 < n) ∧ ls.any (nea n.toNat) = true ∧ 1 ≤ ls.length ∧ ls.length ≤ 100 ∧ e = 11)) : Reads Tryd.prog 8 false [.int .i64 n, .rsl 1 (lisR ls)] (.bool true) := by
  have ha := awake_r
  have h1 := Reads.flat (ctlon_r ls hl) rfl
  have h2 := fun h => Reads.flat (ctnea_r n.toNat h ls hl hle) rfl
  refine Reads.body (rs := [.tmp 4]) Tryd.func8 rfl Tryd.ntmps8 rfl (by simp) ?_
  generalize hQr : retQ _ _ _ = Qr
  refine AW.seq fun K1 hK1 => ?_
  refine AW.regionK 0 (fun _ => none) [1, 2] [2] ?_
  simp only [go_sem, reduceIte, reduceCtorEq, zA, zM, zE, zL, zD, zS, zP, zB, zI, zR, lisR_len]
  repeat with_reducible refine cj ?_ ?_
  all_goals try first | omega
  refine hK1 _ _ _ ?_; clear hK1
  refine AW.seq fun K2 hK2 => ?_
  refine AW.seq fun K3 hK3 => ?_
  refine AW.regionK 0 (fun ii => if ii = 0 then some (.reads false (.bool true)) else none) [1, 2, 8] [2] ?_
  simp only [go_sem, reduceIte, reduceCtorEq, zA, zM, zE, zL, zD, zS, zP, zB, zI, zR, lisR_len]
  repeat with_reducible refine cj ?_ ?_
  all_goals try first | (exact ha) | omega | exact ent (by kernel_rfl)
  refine hK3 _ _ _ ?_; clear hK3
  refine AW.cond rfl (by simp only [go_sem, reduceIte, reduceCtorEq, zA, zM, zE, zL, zD, zS, zP, zB, zI, zR]) ?_ ?_
  · intro hb
    try simp only [hB, decide_eq_true_eq, decide_eq_false_iff_not] at hb
    exfalso; simp at hb
  · intro hb
    try simp only [hB, decide_eq_true_eq, decide_eq_false_iff_not] at hb
    refine AW.skip ?_
    refine hK2 _ _ _ ?_; clear hK2
    refine AW.seq fun K4 hK4 => ?_
    refine AW.seq fun K5 hK5 => ?_
    refine AW.regionK 0 (fun ii => if ii = 23 then some (.reads true (.bool (ls.any lon))) else none) [1, 2, 33] [2] ?_
    simp only [go_sem, reduceIte, reduceCtorEq, zA, zM, zE, zL, zD, zS, zP, zB, zI, zR, lisR_len]
    repeat with_reducible refine cj ?_ ?_
    all_goals try first | ((intros; (repeat' apply And.intro) <;> first | assumption | exact h1)) | (intros; (repeat' apply And.intro) <;> first | assumption | ((intros; (repeat' apply And.intro) <;> first | assumption | exact h1))) | omega | exact ent (by kernel_rfl) | (intro hgd; exact absurd hgd (by decide)) | rfl | (simp only [go_sem, reduceIte, reduceCtorEq, zA, zM, zE, zL, zD, zS, zP, zB, zI, zR, lisR_len]; done) | (intro _hgd; simp_all [go_sem]; done)
    refine hK5 _ _ _ ?_; clear hK5
    refine AW.cond rfl (by simp only [go_sem, reduceIte, reduceCtorEq, zA, zM, zE, zL, zD, zS, zP, zB, zI, zR]) ?_ ?_
    · intro hb
      try simp only [hB, decide_eq_true_eq, decide_eq_false_iff_not] at hb
      refine AW.seq fun K6 hK6 => ?_
      refine AW.regionK 0 (fun _ => none) [4] [] ?_
      simp only [go_sem, reduceIte, reduceCtorEq, zA, zM, zE, zL, zD, zS, zP, zB, zI, zR, lisR_len]
      repeat with_reducible refine cj ?_ ?_
      all_goals try first | omega
      refine hK6 _ _ _ ?_; clear hK6
      refine AW.ret ?_
      rw [← hQr]
      simp only [go_sem, reduceIte, reduceCtorEq, zA, zM, zE, zL, zD, zS, zP, zB, zI, zR, lisR_len]
      exact Wk.refl _
    · intro hb
      try simp only [hB, decide_eq_true_eq, decide_eq_false_iff_not] at hb
      clear hb
      refine AW.skip ?_
      refine hK4 _ _ _ ?_; clear hK4
      refine AW.seq fun K7 hK7 => ?_
      refine AW.regionK 0 (fun ii => if ii = 2 then some (.reads false (.tup [.agg [.rsl 2 []], .int .i64 e])) else none) [1, 2, 5, 6] [2, 5] ?_
      simp only [go_sem, reduceIte, reduceCtorEq, zA, zM, zE, zL, zD, zS, zP, zB, zI, zR, lisR_len]
      repeat with_reducible refine cj ?_ ?_
      all_goals try first | (exact hM) | omega | exact ent (by kernel_rfl)
      refine hK7 _ _ _ ?_; clear hK7
      refine AW.seq fun K8 hK8 => ?_
      refine AW.block ?_
      refine AW.seq fun K9 hK9 => ?_
      refine AW.regionK 0 (fun _ => none) [1, 2, 5, 6, 40] [2, 5] ?_
      simp only [go_sem, reduceIte, reduceCtorEq, zA, zM, zE, zL, zD, zS, zP, zB, zI, zR, lisR_len]
      repeat with_reducible refine cj ?_ ?_
      all_goals try first | omega | (intros; (repeat' apply And.intro) <;> first | assumption | omega | decide) | (intro hgd; exact absurd hgd (by decide)) | rfl | (simp only [go_sem, reduceIte, reduceCtorEq, zA, zM, zE, zL, zD, zS, zP, zB, zI, zR, lisR_len]; done) | (intro _hgd; simp_all [go_sem]; done)
      refine hK9 _ _ _ ?_; clear hK9
      refine AW.cond rfl (by simp only [go_sem, reduceIte, reduceCtorEq, zA, zM, zE, zL, zD, zS, zP, zB, zI, zR]) ?_ ?_
      · intro hb
        try simp only [hB, decide_eq_true_eq, decide_eq_false_iff_not] at hb
        refine AW.seq fun K10 hK10 => ?_
        refine AW.regionK 0 (fun _ => none) [4] [] ?_
        simp only [go_sem, reduceIte, reduceCtorEq, zA, zM, zE, zL, zD, zS, zP, zB, zI, zR, lisR_len]
        repeat with_reducible refine cj ?_ ?_
        all_goals try first | omega | (intros; (repeat' apply And.intro) <;> first | assumption | omega | decide) | (intro hgd; exact absurd hgd (by decide)) | rfl | (simp only [go_sem, reduceIte, reduceCtorEq, zA, zM, zE, zL, zD, zS, zP, zB, zI, zR, lisR_len]; done) | (intro _hgd; simp_all [go_sem]; done)
        refine hK10 _ _ _ ?_; clear hK10
        refine AW.ret ?_
        rw [← hQr]
        simp only [go_sem, reduceIte, reduceCtorEq, zA, zM, zE, zL, zD, zS, zP, zB, zI, zR, lisR_len]
        exact Wk.of_eq (by rw [show e = 2 by omega]; simp)
      · intro hb
        try simp only [hB, decide_eq_true_eq, decide_eq_false_iff_not] at hb
        refine AW.seq fun K11 hK11 => ?_
        refine AW.regionK 0 (fun _ => none) [1, 2, 5, 6, 55] [2, 5] ?_
        simp only [go_sem, reduceIte, reduceCtorEq, zA, zM, zE, zL, zD, zS, zP, zB, zI, zR, lisR_len]
        repeat with_reducible refine cj ?_ ?_
        all_goals try first | omega
        refine hK11 _ _ _ ?_; clear hK11
        refine AW.cond rfl (by simp only [go_sem, reduceIte, reduceCtorEq, zA, zM, zE, zL, zD, zS, zP, zB, zI, zR]) ?_ ?_
        · intro hb
          try simp only [hB, decide_eq_true_eq, decide_eq_false_iff_not] at hb
          refine AW.seq fun K12 hK12 => ?_
          refine AW.regionK 0 (fun _ => none) [4] [] ?_
          simp only [go_sem, reduceIte, reduceCtorEq, zA, zM, zE, zL, zD, zS, zP, zB, zI, zR, lisR_len]
          repeat with_reducible refine cj ?_ ?_
          all_goals try first | omega | (intros; (repeat' apply And.intro) <;> first | assumption | omega | decide) | (intro hgd; exact absurd hgd (by decide)) | rfl | (simp only [go_sem, reduceIte, reduceCtorEq, zA, zM, zE, zL, zD, zS, zP, zB, zI, zR, lisR_len]; done) | (intro _hgd; simp_all [go_sem]; done)
          refine hK12 _ _ _ ?_; clear hK12
          refine AW.ret ?_
          rw [← hQr]
          simp only [go_sem, reduceIte, reduceCtorEq, zA, zM, zE, zL, zD, zS, zP, zB, zI, zR, lisR_len]
          exact Wk.of_eq (by rw [show e = 7 by omega]; simp)
        · intro hb
          try simp only [hB, decide_eq_true_eq, decide_eq_false_iff_not] at hb
          refine AW.seq fun K13 hK13 => ?_
          refine AW.regionK 0 (fun _ => none) [1, 2, 5, 6, 67] [2, 5] ?_
          simp only [go_sem, reduceIte, reduceCtorEq, zA, zM, zE, zL, zD, zS, zP, zB, zI, zR, lisR_len]
          repeat with_reducible refine cj ?_ ?_
          all_goals try first | omega
          refine hK13 _ _ _ ?_; clear hK13
          refine AW.cond rfl (by simp only [go_sem, reduceIte, reduceCtorEq, zA, zM, zE, zL, zD, zS, zP, zB, zI, zR]) ?_ ?_
          · intro hb
            try simp only [hB, decide_eq_true_eq, decide_eq_false_iff_not] at hb
            refine AW.seq fun K14 hK14 => ?_
            refine AW.regionK 0 (fun _ => none) [4] [] ?_
            simp only [go_sem, reduceIte, reduceCtorEq, zA, zM, zE, zL, zD, zS, zP, zB, zI, zR, lisR_len]
            repeat with_reducible refine cj ?_ ?_
            all_goals try first | omega | (intros; (repeat' apply And.intro) <;> first | assumption | omega | decide) | (intro hgd; exact absurd hgd (by decide)) | rfl | (simp only [go_sem, reduceIte, reduceCtorEq, zA, zM, zE, zL, zD, zS, zP, zB, zI, zR, lisR_len]; done) | (intro _hgd; simp_all [go_sem]; done)
            refine hK14 _ _ _ ?_; clear hK14
            refine AW.ret ?_
            rw [← hQr]
            simp only [go_sem, reduceIte, reduceCtorEq, zA, zM, zE, zL, zD, zS, zP, zB, zI, zR, lisR_len]
            exact Wk.of_eq (by rw [show e = 5 by omega]; simp)
          · intro hb
            try simp only [hB, decide_eq_true_eq, decide_eq_false_iff_not] at hb
            have h2 := h2 (by omega)
            have hnn : ((n.toNat : Nat) : Int) = n := by omega
            rw [hnn] at h2
            have he11 : ls.any (nea n.toNat) = true ∧ e = 11 := by
              rcases he with h | h | h | h
              · omega
              · omega
              · omega
              · exact ⟨h.2.1, h.2.2.2.2⟩
            rw [he11.1] at h2
            refine AW.seq fun K15 hK15 => ?_
            refine AW.regionK 0 (fun ii => if ii = 2 then some (.reads true (.bool true)) else none) [1, 2, 5, 6, 79] [2, 5] ?_
            simp only [go_sem, reduceIte, reduceCtorEq, zA, zM, zE, zL, zD, zS, zP, zB, zI, zR, lisR_len]
            repeat with_reducible refine cj ?_ ?_
            all_goals try first | (exact h2) | omega | exact ent (by kernel_rfl)
            refine hK15 _ _ _ ?_; clear hK15
            refine AW.cond rfl (by simp only [go_sem, reduceIte, reduceCtorEq, zA, zM, zE, zL, zD, zS, zP, zB, zI, zR]) ?_ ?_
            · intro hb
              try simp only [hB, decide_eq_true_eq, decide_eq_false_iff_not] at hb
              refine AW.seq fun K16 hK16 => ?_
              refine AW.regionK 0 (fun _ => none) [4] [] ?_
              simp only [go_sem, reduceIte, reduceCtorEq, zA, zM, zE, zL, zD, zS, zP, zB, zI, zR, lisR_len]
              repeat with_reducible refine cj ?_ ?_
              all_goals try first | omega | (intros; (repeat' apply And.intro) <;> first | assumption | omega | decide) | (intro hgd; exact absurd hgd (by decide)) | rfl | (simp only [go_sem, reduceIte, reduceCtorEq, zA, zM, zE, zL, zD, zS, zP, zB, zI, zR, lisR_len]; done) | (intro _hgd; simp_all [go_sem]; done)
              refine hK16 _ _ _ ?_; clear hK16
              refine AW.ret ?_
              rw [← hQr]
              simp only [go_sem, reduceIte, reduceCtorEq, zA, zM, zE, zL, zD, zS, zP, zB, zI, zR, lisR_len]
              exact Wk.of_eq (by rw [he11.2]; simp)
            · intro hb
              try simp only [hB, decide_eq_true_eq, decide_eq_false_iff_not] at hb
              exfalso; simp at hb
theorem meets_g (n : Nat) (hn : n ≤ 512) (ls : List (List Int)) (h1 : 1 ≤ ls.length) (h2 : ls.length ≤ 100) (hle : ∀ x ∈ ls, x.length ≤ 9223372036854775807) (hx : ls.all (eachB n) = true) : Reads Tryd.prog 8 false [.int .i64 n, .rsl 1 (lisR ls)] (.bool true) := by
  have ha := awake_r
  have hlo := Reads.flat (ctlon_r ls (by omega)) rfl
  have hne := Reads.flat (ctnea_r n hn ls (by omega) hle) rfl
  have hnf : ls.any (nea n) = false := by
    rw [List.any_eq_false]; intro x hxm
    simp [nea, List.all_eq_true.1 hx x hxm]
  rw [hnf] at hne
  have hE : ∀ l ∈ ls, IsEach n l := fun l hl => eachB_iff.1 (List.all_eq_true.1 hx l hl)
  have hM := meet_g n hn ls h1 h2 hle hx
  have hR := (rmeet_f n hn ls (by omega) (fun l hl => (hE l hl).len)).old
  rw [← show meetT n ls = tabF n (meetR n ls) from tabF_ext fun i j hi hj => meet_eq hE hi hj] at hR
  have hsq : Sq n (meetT n ls) := tabF_sq n _
  have hS := same_refl n (meetT n ls) hsq hn
  have hV := pvalid_g n (meetT n ls) hsq hn
  rw [(poB_iff hsq).2 (meet_po (by intro e; rw [e] at h1; simp at h1) hE)] at hV
  unfold relB at *
  generalize tabR (meetT n ls) = T at *
  refine Reads.body (rs := [.tmp 4]) Tryd.func8 rfl Tryd.ntmps8 rfl (by simp) ?_
  generalize hQr : retQ _ _ _ = Qr
  refine AW.seq fun K1 hK1 => ?_
  refine AW.regionK 0 (fun _ => none) [1, 2] [2] ?_
  simp only [go_sem, reduceIte, reduceCtorEq, zA, zM, zE, zL, zD, zS, zP, zB, zI, zR, lisR_len]
  repeat with_reducible refine cj ?_ ?_
  all_goals try first | omega
  refine hK1 _ _ _ ?_; clear hK1
  refine AW.seq fun K2 hK2 => ?_
  refine AW.seq fun K3 hK3 => ?_
  refine AW.regionK 0 (fun ii => if ii = 0 then some (.reads false (.bool true)) else none) [1, 2, 8] [2] ?_
  simp only [go_sem, reduceIte, reduceCtorEq, zA, zM, zE, zL, zD, zS, zP, zB, zI, zR, lisR_len]
  repeat with_reducible refine cj ?_ ?_
  all_goals try first | (exact ha) | omega | exact ent (by kernel_rfl)
  refine hK3 _ _ _ ?_; clear hK3
  refine AW.cond rfl (by simp only [go_sem, reduceIte, reduceCtorEq, zA, zM, zE, zL, zD, zS, zP, zB, zI, zR]) ?_ ?_
  · intro hb
    try simp only [hB, decide_eq_true_eq, decide_eq_false_iff_not] at hb
    exfalso; simp at hb
  · intro hb
    try simp only [hB, decide_eq_true_eq, decide_eq_false_iff_not] at hb
    refine AW.skip ?_
    refine hK2 _ _ _ ?_; clear hK2
    refine AW.seq fun K4 hK4 => ?_
    refine AW.seq fun K5 hK5 => ?_
    refine AW.regionK 0 (fun ii => if ii = 23 then some (.reads true (.bool (ls.any lon))) else none) [1, 2, 33] [2] ?_
    simp only [go_sem, reduceIte, reduceCtorEq, zA, zM, zE, zL, zD, zS, zP, zB, zI, zR, lisR_len]
    repeat with_reducible refine cj ?_ ?_
    all_goals try first | ((intros; (repeat' apply And.intro) <;> first | assumption | exact hlo)) | (intros; (repeat' apply And.intro) <;> first | assumption | ((intros; (repeat' apply And.intro) <;> first | assumption | exact hlo))) | omega | exact ent (by kernel_rfl) | (intro hgd; exact absurd hgd (by decide)) | rfl | (simp only [go_sem, reduceIte, reduceCtorEq, zA, zM, zE, zL, zD, zS, zP, zB, zI, zR, lisR_len]; done) | (intro _hgd; simp_all [go_sem]; done)
    refine hK5 _ _ _ ?_; clear hK5
    refine AW.cond rfl (by simp only [go_sem, reduceIte, reduceCtorEq, zA, zM, zE, zL, zD, zS, zP, zB, zI, zR]) ?_ ?_
    · intro hb
      try simp only [hB, decide_eq_true_eq, decide_eq_false_iff_not] at hb
      refine AW.seq fun K6 hK6 => ?_
      refine AW.regionK 0 (fun _ => none) [4] [] ?_
      simp only [go_sem, reduceIte, reduceCtorEq, zA, zM, zE, zL, zD, zS, zP, zB, zI, zR, lisR_len]
      repeat with_reducible refine cj ?_ ?_
      all_goals try first | omega
      refine hK6 _ _ _ ?_; clear hK6
      refine AW.ret ?_
      rw [← hQr]
      simp only [go_sem, reduceIte, reduceCtorEq, zA, zM, zE, zL, zD, zS, zP, zB, zI, zR, lisR_len]
      exact Wk.refl _
    · intro hb
      try simp only [hB, decide_eq_true_eq, decide_eq_false_iff_not] at hb
      clear hb
      refine AW.skip ?_
      refine hK4 _ _ _ ?_; clear hK4
      refine AW.seq fun K7 hK7 => ?_
      refine AW.regionK 0 (fun ii => if ii = 2 then some (.reads false (.tup [.agg [.rsl 2 T], .int .i64 0])) else none) [1, 2, 5, 6] [2, 5] ?_
      simp only [go_sem, reduceIte, reduceCtorEq, zA, zM, zE, zL, zD, zS, zP, zB, zI, zR, lisR_len]
      repeat with_reducible refine cj ?_ ?_
      all_goals try first | (exact hM) | omega | exact ent (by kernel_rfl)
      refine hK7 _ _ _ ?_; clear hK7
      refine AW.seq fun K8 hK8 => ?_
      refine AW.block ?_
      refine AW.seq fun K9 hK9 => ?_
      refine AW.regionK 0 (fun _ => none) [1, 2, 5, 6, 40] [2, 5] ?_
      simp only [go_sem, reduceIte, reduceCtorEq, zA, zM, zE, zL, zD, zS, zP, zB, zI, zR, lisR_len]
      repeat with_reducible refine cj ?_ ?_
      all_goals try first | omega | (intros; (repeat' apply And.intro) <;> first | assumption | omega | decide) | (intro hgd; exact absurd hgd (by decide)) | rfl | (simp only [go_sem, reduceIte, reduceCtorEq, zA, zM, zE, zL, zD, zS, zP, zB, zI, zR, lisR_len]; done) | (intro _hgd; simp_all [go_sem]; done)
      refine hK9 _ _ _ ?_; clear hK9
      refine AW.cond rfl (by simp only [go_sem, reduceIte, reduceCtorEq, zA, zM, zE, zL, zD, zS, zP, zB, zI, zR]) ?_ ?_
      · intro hb
        try simp only [hB, decide_eq_true_eq, decide_eq_false_iff_not] at hb
        exfalso; omega
      · intro hb
        try simp only [hB, decide_eq_true_eq, decide_eq_false_iff_not] at hb
        refine AW.seq fun K10 hK10 => ?_
        refine AW.regionK 0 (fun _ => none) [1, 2, 5, 6, 55] [2, 5] ?_
        simp only [go_sem, reduceIte, reduceCtorEq, zA, zM, zE, zL, zD, zS, zP, zB, zI, zR, lisR_len]
        repeat with_reducible refine cj ?_ ?_
        all_goals try first | omega
        refine hK10 _ _ _ ?_; clear hK10
        refine AW.cond rfl (by simp only [go_sem, reduceIte, reduceCtorEq, zA, zM, zE, zL, zD, zS, zP, zB, zI, zR]) ?_ ?_
        · intro hb
          try simp only [hB, decide_eq_true_eq, decide_eq_false_iff_not] at hb
          exfalso; omega
        · intro hb
          try simp only [hB, decide_eq_true_eq, decide_eq_false_iff_not] at hb
          refine AW.seq fun K11 hK11 => ?_
          refine AW.regionK 0 (fun _ => none) [1, 2, 5, 6, 67] [2, 5] ?_
          simp only [go_sem, reduceIte, reduceCtorEq, zA, zM, zE, zL, zD, zS, zP, zB, zI, zR, lisR_len]
          repeat with_reducible refine cj ?_ ?_
          all_goals try first | omega
          refine hK11 _ _ _ ?_; clear hK11
          refine AW.cond rfl (by simp only [go_sem, reduceIte, reduceCtorEq, zA, zM, zE, zL, zD, zS, zP, zB, zI, zR]) ?_ ?_
          · intro hb
            try simp only [hB, decide_eq_true_eq, decide_eq_false_iff_not] at hb
            exfalso; omega
          · intro hb
            try simp only [hB, decide_eq_true_eq, decide_eq_false_iff_not] at hb
            refine AW.seq fun K12 hK12 => ?_
            refine AW.regionK 0 (fun ii => if ii = 2 then some (.reads true (.bool false)) else none) [1, 2, 5, 6, 79] [2, 5] ?_
            simp only [go_sem, reduceIte, reduceCtorEq, zA, zM, zE, zL, zD, zS, zP, zB, zI, zR, lisR_len]
            repeat with_reducible refine cj ?_ ?_
            all_goals try first | (exact hne) | omega | exact ent (by kernel_rfl)
            refine hK12 _ _ _ ?_; clear hK12
            refine AW.cond rfl (by simp only [go_sem, reduceIte, reduceCtorEq, zA, zM, zE, zL, zD, zS, zP, zB, zI, zR]) ?_ ?_
            · intro hb
              try simp only [hB, decide_eq_true_eq, decide_eq_false_iff_not] at hb
              exfalso; simp at hb
            · intro hb
              try simp only [hB, decide_eq_true_eq, decide_eq_false_iff_not] at hb
              refine AW.skip ?_
              refine hK8 _ _ _ ?_; clear hK8
              refine AW.seq fun K13 hK13 => ?_
              refine AW.regionD mixed 0 (fun ii => if ii = 6 then some (.reads false (.agg [.rsl 2 T])) else if ii = 7 then some (.reads false (.bool true)) else if ii = 11 then some (.reads false (.bool true)) else none) [4] [] ?_
              simp only [go_sem, reduceIte, reduceCtorEq, zA, zM, zE, zL, zD, zS, zP, zB, zI, zR, lisR_len]
              repeat with_reducible refine cj ?_ ?_
              all_goals try first | ((intros; (repeat' apply And.intro) <;> first | assumption | exact hR | exact hS | exact hV)) | (intros; (repeat' apply And.intro) <;> first | assumption | ((intros; (repeat' apply And.intro) <;> first | assumption | exact hR | exact hS | exact hV))) | omega | exact chk (by kernel_rfl) | exact ent (by kernel_rfl) | (intro hgd; exact absurd hgd (by decide)) | rfl | (simp only [go_sem, reduceIte, reduceCtorEq, zA, zM, zE, zL, zD, zS, zP, zB, zI, zR, lisR_len]; done) | (intro _hgd; simp_all [go_sem]; done)
              refine hK13 _ _ _ ?_; clear hK13
              refine AW.ret ?_
              rw [← hQr]
              simp only [go_sem, reduceIte, reduceCtorEq, zA, zM, zE, zL, zD, zS, zP, zB, zI, zR, lisR_len]
              exact Wk.of_eq (by simp)
theorem law_meets (n : Int) (ls : List (List Int)) (hl : ls.length ≤ 9223372036854775807) (hle : ∀ x ∈ ls, x.length ≤ 9223372036854775807) : Reads Tryd.prog 8 false [.int .i64 n, .rsl 1 (lisR ls)] (.bool true) := by
  by_cases hn : n < 0 ∨ 512 < n
  · exact meets_z n ls hl hle 2 (meet_e n ls hl 2 (.inl ⟨hn, rfl⟩)) (.inl ⟨hn, rfl⟩)
  · by_cases h0 : ls.length = 0
    · exact meets_z n ls hl hle 7 (meet_e n ls hl 7 (.inr (.inl ⟨hn, h0, rfl⟩))) (.inr (.inl ⟨hn, h0, rfl⟩))
    · by_cases h1 : 100 < ls.length
      · exact meets_z n ls hl hle 5 (meet_e n ls hl 5 (.inr (.inr ⟨hn, h1, rfl⟩))) (.inr (.inr (.inl ⟨hn, h1, rfl⟩)))
      · have hnn : ((n.toNat : Nat) : Int) = n := by omega
        cases hx : ls.all (eachB n.toNat) with
        | true =>
          have h := meets_g n.toNat (by omega) ls (by omega) (by omega) hle hx
          rwa [hnn] at h
        | false =>
          have h := meet_x n.toNat (by omega) ls (by omega) (by omega) hle hx
          rw [hnn] at h
          have ha : ls.any (nea n.toNat) = true := by
            rw [List.all_eq_false] at hx
            obtain ⟨x, h2, h3⟩ := hx
            rw [List.any_eq_true]
            exact ⟨x, h2, by simpa [nea] using h3⟩
          exact meets_z n ls hl hle 11 h (.inr (.inr (.inr ⟨hn, ha, by omega, by omega, rfl⟩)))
end Go.Proofs.X

